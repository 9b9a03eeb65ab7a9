/-
  The roots of unity: a root of order n has its n/2-th power -1; the inverse of n.
-/
import Derived.Test.YtefnagiffllhbaaGreatJM20
import Derived.Test.YtefnagiffllhbaaGreatJM5
import Derived.Test.YtefnagiffllhbaaGreatJM3
import Derived.Test.YtefnagiffllhbaaGreatJM9

/- PoI -/
namespace Go.Proofs.YtefnagiffllhbaaGreat
open Go.RowKit

/-- One of four. -/
def sel4 {α : Type} (a b c d : α) (i : Nat) : α := if i = 0 then a else if i = 1 then b else if i = 2 then c else d
theorem sel4_get {α : Type} (a b c d : α) {i : Nat} (h : i < 4) : (#[a, b, c, d] : Array α)[i]? = some (sel4 a b c d i) := by
  rcases (show i = 0 ∨ i = 1 ∨ i = 2 ∨ i = 3 by omega) with rfl | rfl | rfl | rfl <;> rfl
theorem lay_part (L : LayR) {i : Nat} (h : i < 4) : (#[.int .u64 (L.p : Int), .int .i64 (L.block : Int), .int .i64 (L.queries : Int), .int .i64 (L.k : Int), .int .i64 (L.n : Int), .int .i64 (L.secret : Int), .int .i64 (L.rows : Int), .int .i64 (L.a : Int), .int .i64 (L.b : Int), .int .i64 (L.b : Int), .int .i64 (L.b : Int)] : Array Value)[7 + i]? = some (.int .i64 ((sel4 L.a L.b L.b L.b i : Nat) : Int)) := by
  rcases (show i = 0 ∨ i = 1 ∨ i = 2 ∨ i = 3 by omega) with rfl | rfl | rfl | rfl <;> rfl
def cutRow (B : Nat) (v : List Nat) (k : Nat) : List Nat := (List.range B).map fun j => v.getD (k * B + j) 0
def cutV (B : Nat) (v : List Nat) (n : Nat) : List (List Nat) := (List.range n).map (cutRow B v)
def cutPre (B : Nat) (l : Nat → List Nat) (ps : Nat → Nat) (i : Nat) : List (List Nat) := (List.range i).flatMap fun i => cutV B (l i) (ps i)
/-- ref24.cut. -/
def cutL (B : Nat) (l : Nat → List Nat) (ps : Nat → Nat) : List (List Nat) := cutPre B l ps 4
theorem cutPre_next (B : Nat) (l : Nat → List Nat) (ps : Nat → Nat) (i : Nat) : cutPre B l ps (i + 1) = cutPre B l ps i ++ cutV B (l i) (ps i) := by
  rw [cutPre, List.range_succ, List.flatMap_append]
  simp [cutPre]
theorem cutV_next (B : Nat) (v : List Nat) (k : Nat) : cutV B v (k + 1) = cutV B v k ++ [cutRow B v k] := by simp [cutV, List.range_succ]
theorem upTo_stop {n j : Nat} {F : Nat → Nat} (h : ∀ i, j ≤ i → i < n → F i = 0) : fillC n (upTo F (fun _ => 0) j) = fillC n F := fill_same fun i hi => by
  unfold upTo
  split
  · rfl
  · exact (h i (by omega) hi).symm

set_option maxRecDepth 100000 in
set_option maxHeartbeats 2000000 in
theorem rCut_any (L : LayR) (v0 v1 v2 v3 : Value) (l0 l1 l2 l3 : List Nat) (w : World) (hL : LayOk L) (hv : ∀ i, i < 4 → RWd w [sel4 v0 v1 v2 v3 i] (sel4 l0 l1 l2 l3 i)) :
    Calls Tryz.prog 54 #[.agg (layCs L), .agg #[v0, v1, v2, v3]] w fun e w' => ∃ v, e = .returned v ∧ RRows w' [v] (cutL L.block (sel4 l0 l1 l2 l3) (sel4 L.a L.b L.b L.b)) ∧ Below w.heap.size w w' := by
  have hb1 := hL.b1
  have hb2 := hL.b2
  have HPS := Lib.hid (show ∀ i, sel4 L.a L.b L.b L.b i ≤ 100000 from fun i => by
    have := hL.a
    have := hL.b
    unfold sel4
    repeat' split
    all_goals omega)
  have HLP := Lib.hid (fun i (h : i < 4) => lay_part L h)
  have HV := Lib.hid hv
  have HG := Lib.hid (fun i (h : i < 4) => sel4_get v0 v1 v2 v3 h)
  obtain ⟨l, hl⟩ : ∃ l, l = sel4 l0 l1 l2 l3 := ⟨_, rfl⟩
  obtain ⟨ps, hps⟩ : ∃ ps, ps = sel4 L.a L.b L.b L.b := ⟨_, rfl⟩
  have HCL := Lib.hid (show cutL L.block (sel4 l0 l1 l2 l3) (sel4 L.a L.b L.b L.b) = cutPre L.block l ps 4 by rw [hl, hps]; rfl)
  rw [HCL.out]
  rw [← hl] at HV
  rw [← hps] at HPS HLP
  have HP0 := Lib.hid (show cutPre L.block l ps 0 = [] from rfl)
  have HPN := Lib.hid (cutPre_next L.block l ps)
  have mk := mk_words L.block (by omega)
  clear hv hl hps HCL hL
  unfold layCs at *
  obtain ⟨kl, kv, hb0, hsz⟩ := boxes2 w 34 94 #[.int .u64 (L.p : Int), .int .i64 (L.block : Int), .int .i64 (L.queries : Int), .int .i64 (L.k : Int), .int .i64 (L.n : Int), .int .i64 (L.secret : Int), .int .i64 (L.rows : Int), .int .i64 (L.a : Int), .int .i64 (L.b : Int), .int .i64 (L.b : Int), .int .i64 (L.b : Int)] #[v0, v1, v2, v3]
  go_enter Tryz.func54, Tryz.ntmps54
  go_upto_region 1 with fail
  generalize (w.alloc _).alloc _ = w1 at kl kv hb0 hsz ⊢
  obtain ⟨N, hN⟩ : ∃ N, N = w1.heap.size := ⟨_, rfl⟩
  have hN1 : w.heap.size + 1 < N := by omega
  have hN2 : N ≤ w1.heap.size := by omega
  clear hsz hN
  obtain ⟨LC, hLC⟩ : ∃ LC : Array Value, LC = #[.int .u64 (L.p : Int), .int .i64 (L.block : Int), .int .i64 (L.queries : Int), .int .i64 (L.k : Int), .int .i64 (L.n : Int), .int .i64 (L.secret : Int), .int .i64 (L.rows : Int), .int .i64 (L.a : Int), .int .i64 (L.b : Int), .int .i64 (L.b : Int), .int .i64 (L.b : Int)] := ⟨_, rfl⟩
  have HL1 := Lib.hid (show LC[1]? = some (.int .i64 (L.block : Int)) by rw [hLC]; rfl)
  have HL7 := Lib.hid (show ∀ i, i < 4 → LC[7 + i]? = some (.int .i64 (ps i : Int)) from fun i h => by rw [hLC]; exact HLP.out i h)
  rw [← hLC] at kl
  clear hLC HLP
  obtain ⟨VC, hVC⟩ : ∃ VC : Array Value, VC = #[v0, v1, v2, v3] := ⟨_, rfl⟩
  have HVC := Lib.hid (show ∀ i, i < 4 → VC[i]? = some (sel4 v0 v1 v2 v3 i) from fun i h => by rw [hVC]; exact HG.out i h)
  rw [← hVC] at kv
  clear hVC HG
  generalize hBL : L.block = B at *
  have HBL := Lib.hid hBL
  clear hBL
  have g1 : (0 : Int) < (B : Int) := by omega
  have g2 : (B : Int) ≤ 256 := by omega
  go_wp2_with fail
  go_loopw [5, 6] (fun u y wr => ∃ (i n : Nat) (v : Value) (cs : List Value), v = u ∧ i ≤ 4 ∧ y = .int .i64 (i : Int) ∧ n ≤ i * 100000 ∧ Blk wr w.heap.size 34 LC ∧ Blk wr (w.heap.size + 1) 94 VC ∧ wr.ownsRow N 28 1 v n cs ∧ GRows N wr v cs (cutPre B l ps i) ∧ Below w.heap.size w wr ∧ N ≤ wr.heap.size) (fun _ y _ => 4 - (intOf y).toNat)
  case atStart => exact ⟨0, 0, _, [], rfl, by omega, rfl, by omega, kl, kv, ⟨rfl, .inl ⟨rfl, rfl⟩⟩, by rw [HP0.out]; exact grows_nil _ _ _, hb0, hN2⟩
  case round =>
    clear kl kv hb0 hN2
    obtain ⟨i, n0, v, cs, rfl, hi, rfl, hn0, kl, kv, hown, hgr, hb0, hN2⟩ := hrel
    by_cases hlt : i < 4
    · have q1 : (i : Int) < 4 := by omega
      have hvi := HV.out i hlt
      have hps := HPS.out i
      obtain ⟨p, hp⟩ : ∃ p, p = ps i := ⟨_, rfl⟩
      have HL7i := Lib.hid (HL7.out i hlt)
      have HVCi := Lib.hid (HVC.out i hlt)
      have HPNi := Lib.hid (HPN.out i)
      obtain ⟨li, hli⟩ : ∃ li, li = l i := ⟨_, rfl⟩
      obtain ⟨si, hsi⟩ : ∃ si, si = sel4 v0 v1 v2 v3 i := ⟨_, rfl⟩
      rw [← hsi] at hvi HVCi
      rw [← hli] at hvi HPNi
      rw [← hp] at hps HL7i HPNi
      clear hp hli hsi
      obtain ⟨Ai, ci, rfl⟩ := rwd_form hvi
      obtain ⟨-, hx1, hx2, hltl, -⟩ := lw_at hvi
      have gli := lw_max hx1 hx2
      obtain ⟨P0, hP0⟩ : ∃ P0, P0 = cutPre B l ps i := ⟨_, rfl⟩
      rw [← hP0] at hgr HPNi
      have HV0 := Lib.hid (show P0 ++ cutV B li 0 = P0 by simp [cutV])
      have HVN := Lib.hid (show ∀ k, (P0 ++ cutV B li k) ++ [cutRow B li k] = P0 ++ cutV B li (k + 1) from fun k => by rw [cutV_next, List.append_assoc])
      have HVI := Lib.hid hvi
      have HLTL := Lib.hid hltl
      have HX := Lib.hid hx2
      clear hP0 hvi hltl hx1 hx2
      go_wp2_with fail
      go_loopw [5, 7] (fun u y wr => ∃ (k n : Nat) (v : Value) (cs : List Value), v = u ∧ k ≤ p ∧ y = .int .i64 (k : Int) ∧ n ≤ i * 100000 + k ∧ Blk wr w.heap.size 34 LC ∧ Blk wr (w.heap.size + 1) 94 VC ∧ wr.ownsRow N 28 1 v n cs ∧ GRows N wr v cs (P0 ++ cutV B li k) ∧ Below w.heap.size w wr ∧ N ≤ wr.heap.size) (fun _ y _ => p - (intOf y).toNat)
      case atStart => exact ⟨0, n0, _, cs, rfl, Nat.zero_le _, rfl, by rw [Nat.add_zero]; exact hn0, kl, kv, hown, by rw [HV0.out]; exact hgr, hb0, hN2⟩
      case round =>
        clear kl kv hb0 hN2 hown hgr hn0
        obtain ⟨k, n1, v, cs, rfl, hk, rfl, hn1, kl, kv, hown, hgr, hb0, hN2⟩ := hrel
        have c7 := kl.cell (7 + i)
        rw [HL7i.out] at c7
        have c1 := kl.cell 1
        rw [HL1.out] at c1
        by_cases hltk : k < p
        · have q2 : (k : Int) < (p : Int) := by omega
          obtain ⟨wo, hwo⟩ : ∃ wo, wo = wr := ⟨_, rfl⟩
          subst hwo
          have HVN1 := Lib.hid (HVN.out k)
          go_wp2_with fail
          have kg := Blk.new wo 22 (fillC B fun _ => 0)
          have hbi := (Below.refl wo.heap.size wo).alloc (Nat.le_refl _) (.cells (fillC B fun _ => 0) 22)
          have hvb : ∀ q, v.ownBlock = some q → q < wo.heap.size := fun q e => (hown.lt q e).2
          have hgN : N ≤ wo.heap.size := hN2
          clear c7 c1
          generalize wo.alloc _ = w2 at kg hbi ⊢
          obtain ⟨F, hF⟩ : ∃ F : Nat → Nat, F = fun j => li.getD (k * B + j) 0 := ⟨_, rfl⟩
          have HF := Lib.hid (show ∀ j, F j = li.getD (k * B + j) 0 from fun j => by rw [hF])
          have HCR := Lib.hid (show (List.range B).map F = cutRow B li k by rw [hF]; rfl)
          obtain ⟨kb, hkb⟩ : ∃ kb, kb = k * B := ⟨_, rfl⟩
          rw [← hkb] at HF
          have hkb2 : kb ≤ 100000 * 256 := by rw [hkb]; exact Nat.mul_le_mul (by omega) hb2
          have ek : (k : Int) * (B : Int) = (kb : Int) := by rw [hkb]; exact (Int.natCast_mul _ _).symm
          have ek2 : IntKind.i64.wrap (kb : Int) = (kb : Int) := wr_i64 _ (by omega) (by omega)
          have H0 := Lib.hid (upTo_zero B F fun _ => 0)
          have HFL := Lib.hid (show ∀ j, F j < 18446744073709551616 from fun j => by
            rw [HF.out, List.getD_eq_getElem?_getD]
            cases h : li[kb + j]? with
            | none => decide
            | some x => exact HLTL.out x (List.mem_of_getElem? h))
          clear hF hkb
          go_loopw [9] (fun y wr => ∃ j : Nat, j ≤ B ∧ y = .int .i64 (j : Int) ∧ Blk wr wo.heap.size 22 (fillC B (upTo F (fun _ => 0) j)) ∧ Below wo.heap.size wo wr) (fun y _ => B - (intOf y).toNat)
          case atStart => exact ⟨0, by omega, rfl, by rw [H0.out]; exact kg, hbi⟩
          case round =>
            clear kg hbi
            obtain ⟨j, hj, rfl, kg, hbi⟩ := hrel
            obtain ⟨t, ht⟩ : ∃ t, t = kb + j := ⟨_, rfl⟩
            have et : (kb : Int) + (j : Int) = (t : Int) := by omega
            have et2 : IntKind.i64.wrap (t : Int) = (t : Int) := wr_i64 _ (by omega) (by omega)
            have HT := Lib.hid ht
            have c1 := (kl.below hbi kl.lt).cell 1
            rw [HL1.out] at c1
            have ci := (kv.below hbi kv.lt).cell i
            rw [HVCi.out] at ci
            have lk := (kl.below hbi kl.lt).lt
            have lv := (kv.below hbi kv.lt).lt
            have lg := kg.lt
            have q9 : (0 : Int) ≤ (j : Int) := by omega
            have q8 : (0 : Int) ≤ (i : Int) := by omega
            clear ht
            by_cases hj1 : j < B
            · have q3 : (j : Int) < (B : Int) := by omega
              have d3 : decide ((j : Int) < (B : Int)) = true := decide_eq_true q3
              by_cases hj2 : t < li.length
              · have q4 : (t : Int) < (li.length : Int) := by omega
                have q5 : (0 : Int) ≤ (t : Int) := by omega
                have d4 : decide ((t : Int) < (li.length : Int)) = true := decide_eq_true q4
                have hbr := below_chain hb0 hbi
                obtain ⟨b, q, rfl, hbl, hc⟩ := lw_get ((lw_at HVI.out).2.2.2.2.below hbr) hj2
                have HZ := Lib.hid (show li.getD t 0 = F j by rw [HF.out, HT.out])
                rw [HZ.out] at hc
                obtain ⟨z, hz⟩ : ∃ z, z = F j := ⟨_, rfl⟩
                have HST := Lib.hid (upTo_set (n := B) (G := fun _ => 0) hz)
                rw [← hz] at hc
                clear hz HZ hbr
                go_upto_region 10 with fail
                refine wpO_begin (Later) [] [0, 1, 2, 3, 4, 5, 6, 7, 8, 9, 10, 11, 12, 13, 14, 15, 16] (by kernel_rfl) (by kernel_rfl) ?_
                refine wpO_startK (later_moves) ?_
                intro Wc HWc hacc
                have hbW : Below wr.heap.size wr Wc := by rw [HWc.out]; exact (Below.refl _ _).drew
                repeat (first | (refine wpO_skip (later_moves) rfl rfl (fun _ _ _ h => h) ?_ ; simp only [Act.put, List.setIfInBounds_toArray, List.set_cons_zero, List.set_cons_succ]) | (refine wpO_light (v := ?_) (later_moves) rfl rfl (fun _ _ _ h => h) ?_ ?_ ; rotate_left ; (· (intro w' hR ; (first | have hcells := later_cellsD ((later_moves).trans _ _ _ hacc hR) | skip) ; go_simp ; try with_reducible rfl)) ; simp only [Act.put, List.setIfInBounds_toArray, List.set_cons_zero, List.set_cons_succ]))
                refine wpO_done ?_
                replace kg := kg.below hbW kg.lt
                replace hbi := below_chain hbi hbW
                have hc3 := (hbW.cell (p := ⟨b, q + t, none⟩) hbl).trans hc
                replace hbl := Nat.lt_of_lt_of_le hbl hbW.size
                clear c1 ci lk lv lg hacc hc
                generalize Wc = w3 at kg hbi hc3 hbl ⊢
                have c1 := (kl.below hbi kl.lt).cell 1
                rw [HL1.out] at c1
                have ci := (kv.below hbi kv.lt).cell i
                rw [HVCi.out] at ci
                have lk := (kl.below hbi kl.lt).lt
                have lv := (kv.below hbi kv.lt).lt
                have lg := kg.lt
                have cg := kg.cell j
                rw [upTo_get _ _ hj1] at cg
                go_upto_region 12 with fail
                refine wpGO_begin (Later) (later_moves) [14] [14] [0, 1, 2, 3, 4, 5, 6, 7, 8, 9, 10, 11, 12, 13, 14] (by kernel_rfl) (by kernel_rfl) ?_
                refine wpGO_start (later_moves) ?_
                intro Wc hacc
                repeat (first | (refine wpGO_skip (later_moves) rfl rfl rfl rfl (fun _ _ _ h => h) ?_ ; simp only [Act.put, List.setIfInBounds_toArray, List.set_cons_zero, List.set_cons_succ]) | (refine wpGO_light (v := ?_) (later_moves) rfl rfl rfl rfl (fun _ _ _ h => h) ?_ ?_ ; rotate_left ; (· (intro w' hR ; (first | have hcells := later_cellsD ((later_moves).trans _ _ _ hacc hR) | skip) ; go_simp ; try with_reducible rfl)) ; simp only [Act.put, List.setIfInBounds_toArray, List.set_cons_zero, List.set_cons_succ]) | (refine wpGO_free (v := ?_) rfl rfl rfl rfl (fun _ _ _ h => h) ?_ ?_ ; rotate_left ; (· (intro w' ; go_simp ; try with_reducible rfl)) ; simp only [Act.put, List.setIfInBounds_toArray, List.set_cons_zero, List.set_cons_succ]))
                refine wpGO_heavy rfl rfl rfl rfl ?_
                intro wh hRh
                replace hacc := (later_moves).trans _ _ _ hacc hRh
                have hxd := below_chain (Below.refl w3.heap.size w3).drew hacc
                replace kg := kg.below hxd kg.lt
                replace hbi := below_chain hbi hxd
                clear hxd hacc hRh lk lv lg c1 ci cg hc3 hbl
                have c2 := kg.cell j
                rw [upTo_get _ _ hj1] at c2
                have f2 := kg.frozen
                go_simp
                refine ⟨fun h => Bool.noConfusion h, ?_⟩
                have hg := set_only (w := wh) wo.heap.size j (.int .u64 (z : Int))
                replace kg := kg.set_ j (.int .u64 (z : Int))
                rw [HST.out] at kg
                replace hbi := hbi.trans (below_of_only hg hbi.size (Nat.le_refl _))
                clear hg f2 c2
                generalize wh.setCell _ _ = we at kg hbi ⊢
                refine wpGO_doneP rfl ?_
                go_wp2_with fail
                go_roundw
                case rel => exact ⟨j + 1, by omega, by go_num, kg, hbi⟩
                case measure => simp [intOf]; omega
              · have d4 : decide ((t : Int) < (li.length : Int)) = false := decide_eq_false (by omega)
                have HST := Lib.hid (show fillC B (upTo F (fun _ => 0) j) = fillC B F from upTo_stop fun x h1 _ => by
                  rw [HF.out, getD_out]
                  have := HT.out
                  omega)
                go_upto_region 10 with fail
                refine wpO_begin (Later) [] [0, 1, 2, 3, 4, 5, 6, 7, 8, 9, 10, 11, 12, 13, 14, 15, 16] (by kernel_rfl) (by kernel_rfl) ?_
                refine wpO_startK (later_moves) ?_
                intro Wc HWc hacc
                have hbW : Below wr.heap.size wr Wc := by rw [HWc.out]; exact (Below.refl _ _).drew
                repeat (first | (refine wpO_skip (later_moves) rfl rfl (fun _ _ _ h => h) ?_ ; simp only [Act.put, List.setIfInBounds_toArray, List.set_cons_zero, List.set_cons_succ]) | (refine wpO_light (v := ?_) (later_moves) rfl rfl (fun _ _ _ h => h) ?_ ?_ ; rotate_left ; (· (intro w' hR ; (first | have hcells := later_cellsD ((later_moves).trans _ _ _ hacc hR) | skip) ; go_simp ; try with_reducible rfl)) ; simp only [Act.put, List.setIfInBounds_toArray, List.set_cons_zero, List.set_cons_succ]))
                refine wpO_done ?_
                replace kg := kg.below hbW kg.lt
                replace hbi := below_chain hbi hbW
                clear c1 ci lk lv lg hacc
                generalize Wc = w3 at kg hbi ⊢
                rw [HST.out] at kg
                replace kl := kl.below hbi kl.lt
                replace kv := kv.below hbi kv.lt
                replace hb0 := below_chain hb0 hbi
                replace hN2 := Nat.le_trans hN2 hbi.size
                replace hown := own_below hown hbi (Nat.le_refl _)
                replace hgr := grows_below hgr hbi
                have hx := rwx_fill (N := N) (gb := v.ownBlock) kg (fun j _ => HFL.out j) (by simp [maxLen]; omega) hgN (fun e => by have := hvb _ e.symm; omega)
                rw [HCR.out] at hx
                clear kg
                go_wp2_with (at_builtin; refine wpl_append rfl _ _ rfl el_ww rfl (hown.alloc _) rfl (rd_one _ _ _) (by intro u hu; simp at hu; subst hu; rfl) (by omega) (by simp; omega) ?_)
                intro v' wn hown' hgrow hblk
                have hal := (Below.refl w3.heap.size w3).alloc (Nat.le_refl _) (.cells #[.slice (some ⟨wo.heap.size, 0, none⟩) B B] 28)
                replace hgr := grows_below hgr hal
                replace hx := rwx_keep hx hal.size (fun b _ h2 _ => hal.block b h2)
                have hgn := grows_app hgr hx hgrow (by simpa using hblk)
                rw [HVN1.out] at hgn
                have hBx := lw_grow (hown.alloc _) hgrow (by simp; omega)
                have hNw : w.heap.size ≤ N := by omega
                have hvN : ∀ q, v.ownBlock = some q → N ≤ q := fun q e => (hown.lt q e).1
                replace kl := kl.below hal kl.lt
                replace kv := kv.below hal kv.lt
                replace hb0 := below_chain hb0 hal
                replace hN2 := Nat.le_trans hN2 hal.size
                replace kl := kl.grown hgrow (fun e => by first | (have := hvN _ e; omega) | (have := hvN _ e.symm; omega))
                replace kv := kv.grown hgrow (fun e => by first | (have := hvN _ e; omega) | (have := hvN _ e.symm; omega))
                replace hb0 := hb0.trans (hBx.mono hNw)
                replace hN2 := Nat.le_trans hN2 hgrow.size
                clear hgrow hblk hBx hal hown hgr hx hbi
                go_wp2
                go_roundw
                case rel => exact ⟨k + 1, n1 + 1, _, _, rfl, by omega, by go_num, by omega, kl, kv, hown', hgn, hb0, hN2⟩
                case measure => simp [intOf]; omega
            · have d3 : decide ((j : Int) < (B : Int)) = false := decide_eq_false (by omega)
              have HST := Lib.hid (show fillC B (upTo F (fun _ => 0) j) = fillC B F from upTo_stop fun x h1 h2 => by omega)
              go_upto_region 10 with fail
              refine wpO_begin (Later) [] [0, 1, 2, 3, 4, 5, 6, 7, 8, 9, 10, 11, 12, 13, 14, 15, 16] (by kernel_rfl) (by kernel_rfl) ?_
              refine wpO_startK (later_moves) ?_
              intro Wc HWc hacc
              have hbW : Below wr.heap.size wr Wc := by rw [HWc.out]; exact (Below.refl _ _).drew
              repeat (first | (refine wpO_skip (later_moves) rfl rfl (fun _ _ _ h => h) ?_ ; simp only [Act.put, List.setIfInBounds_toArray, List.set_cons_zero, List.set_cons_succ]) | (refine wpO_light (v := ?_) (later_moves) rfl rfl (fun _ _ _ h => h) ?_ ?_ ; rotate_left ; (· (intro w' hR ; (first | have hcells := later_cellsD ((later_moves).trans _ _ _ hacc hR) | skip) ; go_simp ; try with_reducible rfl)) ; simp only [Act.put, List.setIfInBounds_toArray, List.set_cons_zero, List.set_cons_succ]))
              refine wpO_done ?_
              replace kg := kg.below hbW kg.lt
              replace hbi := below_chain hbi hbW
              clear c1 ci lk lv lg hacc
              generalize Wc = w3 at kg hbi ⊢
              rw [HST.out] at kg
              replace kl := kl.below hbi kl.lt
              replace kv := kv.below hbi kv.lt
              replace hb0 := below_chain hb0 hbi
              replace hN2 := Nat.le_trans hN2 hbi.size
              replace hown := own_below hown hbi (Nat.le_refl _)
              replace hgr := grows_below hgr hbi
              have hx := rwx_fill (N := N) (gb := v.ownBlock) kg (fun j _ => HFL.out j) (by simp [maxLen]; omega) hgN (fun e => by have := hvb _ e.symm; omega)
              rw [HCR.out] at hx
              clear kg
              go_wp2_with (at_builtin; refine wpl_append rfl _ _ rfl el_ww rfl (hown.alloc _) rfl (rd_one _ _ _) (by intro u hu; simp at hu; subst hu; rfl) (by omega) (by simp; omega) ?_)
              intro v' wn hown' hgrow hblk
              have hal := (Below.refl w3.heap.size w3).alloc (Nat.le_refl _) (.cells #[.slice (some ⟨wo.heap.size, 0, none⟩) B B] 28)
              replace hgr := grows_below hgr hal
              replace hx := rwx_keep hx hal.size (fun b _ h2 _ => hal.block b h2)
              have hgn := grows_app hgr hx hgrow (by simpa using hblk)
              rw [HVN1.out] at hgn
              have hBx := lw_grow (hown.alloc _) hgrow (by simp; omega)
              have hNw : w.heap.size ≤ N := by omega
              have hvN : ∀ q, v.ownBlock = some q → N ≤ q := fun q e => (hown.lt q e).1
              replace kl := kl.below hal kl.lt
              replace kv := kv.below hal kv.lt
              replace hb0 := below_chain hb0 hal
              replace hN2 := Nat.le_trans hN2 hal.size
              replace kl := kl.grown hgrow (fun e => by first | (have := hvN _ e; omega) | (have := hvN _ e.symm; omega))
              replace kv := kv.grown hgrow (fun e => by first | (have := hvN _ e; omega) | (have := hvN _ e.symm; omega))
              replace hb0 := hb0.trans (hBx.mono hNw)
              replace hN2 := Nat.le_trans hN2 hgrow.size
              clear hgrow hblk hBx hal hown hgr hx hbi
              go_wp2
              go_roundw
              case rel => exact ⟨k + 1, n1 + 1, _, _, rfl, by omega, by go_num, by omega, kl, kv, hown', hgn, hb0, hN2⟩
              case measure => simp [intOf]; omega
        · obtain rfl : k = p := by omega
          have q2 : ¬ ((k : Int) < (k : Int)) := by omega
          rw [← HPNi.out] at hgr
          go_wp2_with fail
          go_roundw
          case rel => exact ⟨i + 1, n1, _, cs, rfl, by omega, by go_num, by omega, kl, kv, hown, hgr, hb0, hN2⟩
          case measure => simp [intOf]; omega
    · obtain rfl : i = 4 := by omega
      rw [← HBL.out] at hgr
      go_wp2
      go_ret
      exact ⟨_, rfl, grows_done hgr hown, hb0⟩
end Go.Proofs.YtefnagiffllhbaaGreat

/- PoJ -/
namespace Go.Proofs.YtefnagiffllhbaaGreat
open Go.RowKit

set_option maxRecDepth 100000 in
set_option maxHeartbeats 400000 in
theorem rSides_any (x y z : Value) (w : World) (hx : slc x) (hy : slc y) (hz : slc z) :
    Calls Tryz.prog 53 #[.agg #[x, y, z]] w fun e w' => e = .returned (.agg #[x, y, z]) ∧ Below w.heap.size w w' := by
  obtain ⟨A0, n0, c0, rfl⟩ := hx
  obtain ⟨A1, n1, c1, rfl⟩ := hy
  obtain ⟨A2, n2, c2, rfl⟩ := hz
  obtain ⟨kr, ka, hb0, -⟩ := boxes2 w 75 96 #[.slice A0 n0 c0, .slice A1 n1 c1, .slice A2 n2 c2] #[.slice none 0 0, .slice none 0 0, .slice none 0 0]
  go_enter Tryz.func53, Tryz.ntmps53
  go_upto_region 1 with fail
  generalize (w.alloc _).alloc _ = w1 at kr ka hb0 ⊢
  have cc1 := kr.cell
  obtain ⟨cc2, f2⟩ := ka.cells'
  have l1 := kr.lt
  have l2 := ka.lt
  go_wp2_with fail
  have k3 := set3_blk ka (.slice A0 n0 c0) (.slice A1 n1 c1) (.slice A2 n2 c2)
  have hg := set3_grown (w := w1) (g := w.heap.size + 1) (.slice A0 n0 c0) (.slice A1 n1 c1) (.slice A2 n2 c2)
  replace hb0 := hb0.trans (below_of_only hg hb0.size (by omega))
  revert k3 hb0
  generalize ((World.setCell _ _ _).setCell _ _).setCell _ _ = wf
  intro k3 hb0
  have c4 := k3.cell
  exact bodyPost_ret (v := .agg #[.slice A0 n0 c0, .slice A1 n1 c1, .slice A2 n2 c2]) (by simp [results, Tryz.results53, go_sem, c4]) rfl ⟨rfl, hb0⟩

theorem info_lin : (Tryz.prog.info? 73).map (fun i => (i.zero, i.size, i.bytes)) = some (some (.slice none 0 0), 1, 24) := by kernel_rfl
theorem agg_lin {w : World} : ((isAgg 73).run Tryz.prog w) = .ok false w := by simp [isAgg, run_underlying Tryz.underlying73]
theorem size_lin {w : World} : ((sizeOf 73).run Tryz.prog w) = .ok 1 w := by
  obtain ⟨i0, hi, hz0, hz1, hz2⟩ := info_parts info_lin
  simp [sizeOf, typeInfo, hi, hz1]
theorem idx_lin {w : World} {x y z : Value} {k : Nat} (h : k < 3) : (Instr.index 96 (.agg #[x, y, z]) (.int .i64 (k : Int))).run Tryz.prog w = .ok (if k = 0 then x else if k = 1 then y else z) w :=
  run_index_arr (i := k) Tryz.underlying96 agg_lin size_lin h (by
    rcases (show k = 0 ∨ k = 1 ∨ k = 2 by omega) with rfl | rfl | rfl <;> rfl)
theorem arr_get {V0 : Value} {xs : Nat → Value} {k : Nat} (h : k < 3) : (#[V0, xs 0, xs 1, xs 2] : Array Value)[k + 1]? = some (xs k) := by
  rcases (show k = 0 ∨ k = 1 ∨ k = 2 by omega) with rfl | rfl | rfl <;> rfl
theorem rwx_here {N : Nat} {gb : Option Nat} {w : World} {v : Value} {l : List Nat} (h : RWx N gb w v l) : RWd w [v] l := h w fun _ _ _ _ => rfl
def updV (xs : Nat → Value) (k : Nat) (v : Value) (j : Nat) : Value := if j = k then v else xs j
theorem arr_set {V0 v : Value} {xs : Nat → Value} {k : Nat} (h : k < 3) : (#[V0, xs 0, xs 1, xs 2] : Array Value).setIfInBounds (k + 1) v = #[V0, updV xs k v 0, updV xs k v 1, updV xs k v 2] := by
  rcases (show k = 0 ∨ k = 1 ∨ k = 2 by omega) with rfl | rfl | rfl <;> rfl
theorem updV_twice (xs : Nat → Value) (k : Nat) (u v : Value) : updV (updV xs k u) k v = updV xs k v := by
  funext j
  unfold updV
  split <;> rfl
theorem updV_self (xs : Nat → Value) (k : Nat) : updV xs k (xs k) = xs := by
  funext j
  unfold updV
  split
  · rename_i h; rw [h]
  · rfl
theorem blk_fromX {g N b : Nat} {w w' : World} {t : TypeId} {cs : Array Value} (k : Blk w b t cs) (h : FromX g N w w') (hb : b < N) (hne : b ≠ g) : Blk w' b t cs := by
  unfold Blk at *
  rw [h.2.2.2.2 b hb hne]
  exact k

/-- One side of a row. -/
def sideR (r : RowR) (k : Nat) : List (Int × Nat) := if k = 0 then r.a else if k = 1 then r.b else r.c
def valsR (p : Nat) (rows : List RowR) (ws : List Nat) (k : Nat) : List Nat := rows.map fun r => linVal p (sideR r k) ws
/-- ref24.Messages. -/
def msgsR (L : LayR) (rows : List RowR) (ws : List Nat) (pu : Nat) : List (List Nat) := cutL L.block (sel4 (ws.drop (1 + pu)) (valsR L.p rows ws 0) (valsR L.p rows ws 1) (valsR L.p rows ws 2)) (sel4 L.a L.b L.b L.b)

theorem linStep_lt {p : Nat} (hp : 0 < p) (ws : List Nat) {s : Nat} (hs : s < p) (t : Int × Nat) : linStep p ws s t < p := by
  unfold linStep
  split
  · exact Nat.mod_lt _ hp
  · exact hs
theorem linVal_lt {p : Nat} (hp : 0 < p) (l : List (Int × Nat)) (ws : List Nat) : linVal p l ws < p := by
  have key : ∀ (l : List (Int × Nat)) (s : Nat), s < p → l.foldl (linStep p ws) s < p := fun l => by
    induction l with
    | nil => exact fun s hs => hs
    | cons t l ih => exact fun s hs => ih _ (linStep_lt hp ws hs t)
  exact key l 0 hp

set_option maxRecDepth 100000 in
set_option maxHeartbeats 2000000 in
theorem rMessages_any (L : LayR) (pu : Nat) (vars : Int) (A B : Option Addr) (n c m d : Nat) (rows : List RowR) (ws : List Nat) (w : World) (hL : LayOk L) (hr : RSl 3 RRow w [.slice A n c] rows) (hw : RWd w [.slice B m d] ws) (hlen : 1 + pu ≤ ws.length) (hn : rows.length ≤ 16384) :
    Calls Tryz.prog 25 #[.agg (layCs L), tabV L.p (pu : Int) vars (.slice A n c), .slice B m d] w fun e w' => ∃ v, e = .returned v ∧ RRows w' [v] (msgsR L rows ws pu) ∧ Below w.heap.size w w' := by
  obtain ⟨hml, hmd, hdx, hlt, hrw⟩ := lw_at hw
  subst hml
  have gm := lw_max hmd hdx
  obtain ⟨s, hs⟩ : ∃ s, s = 1 + pu := ⟨_, rfl⟩
  have e1 : (1 : Int) + (pu : Int) = (s : Int) := by omega
  have e2 : IntKind.i64.wrap (s : Int) = (s : Int) := wr_i64 _ (by omega) (by omega)
  have e3 : (s : Int) ≤ (ws.length : Int) := by omega
  have e4 : s ≤ ws.length := by omega
  have e5 : (0 : Int) ≤ (s : Int) := by omega
  rw [show msgsR L rows ws pu = cutL L.block (sel4 (ws.drop s) (valsR L.p rows ws 0) (valsR L.p rows ws 1) (valsR L.p rows ws 2)) (sel4 L.a L.b L.b L.b) by rw [hs]; rfl]
  unfold layCs tabV at *
  obtain ⟨kl, kt, kv, hb0, hsz⟩ := boxes3 w 34 25 94 #[.int .u64 (L.p : Int), .int .i64 (L.block : Int), .int .i64 (L.queries : Int), .int .i64 (L.k : Int), .int .i64 (L.n : Int), .int .i64 (L.secret : Int), .int .i64 (L.rows : Int), .int .i64 (L.a : Int), .int .i64 (L.b : Int), .int .i64 (L.b : Int), .int .i64 (L.b : Int)] #[.int .u64 (L.p : Int), .int .i64 (pu : Int), .int .i64 vars, .slice A n c] #[.slice none 0 0, .slice none 0 0, .slice none 0 0, .slice none 0 0]
  clear hs
  have hv0 : RWd w [.slice (if d = s then B else Option.map (fun x => x.add s) B) (ws.length - s) (d - s)] (ws.drop s) := by
    have hc := hrw.cut (k := s) e4 hmd
    rw [Nat.mul_one] at hc
    refine ⟨_, _, _, rfl, by omega, by omega, ?_, fun x hx => hlt x (List.mem_of_mem_drop hx)⟩
    have e : U64 (ws.drop s) = (U64 ws).drop s := by simp [U64]
    rw [e]
    exact hc
  have HSd := Lib.hid (fun x y z w hx hy hz => rSides_any x y z w hx hy hz)
  have HVl := Lib.hid (fun A len c l w' (hb : Below w.heap.size w w') hl => rValue_any L.p A B len c ws.length d l ws w' hl (kept_RWd _ _ _ _ hb hw) hL.p)
  have HCut := Lib.hid (fun v0 v1 v2 v3 l0 l1 l2 l3 w h => rCut_any L v0 v1 v2 v3 l0 l1 l2 l3 w hL h)
  obtain ⟨A', n', c', he, hnl, hnc, hcx, hrd⟩ := hr
  simp at he
  obtain ⟨rfl, rfl, rfl⟩ := he
  subst hnl
  have gr : (rows.length : Int) ≤ 16384 := by omega
  have HVN := Lib.hid (show ∀ k i (h : i < rows.length), (valsR L.p rows ws k).take i ++ [linVal L.p (sideR rows[i] k) ws] = (valsR L.p rows ws k).take (i + 1) from fun k i h => by
    rw [List.take_succ_eq_append_getElem (by simpa [valsR] using h)]
    simp [valsR])
  have HVA := Lib.hid (show ∀ k, (valsR L.p rows ws k).take rows.length = valsR L.p rows ws k from fun k => List.take_of_length_le (by simp [valsR]))
  have HVT := Lib.hid (show ∀ k, ∀ x ∈ valsR L.p rows ws k, x < 18446744073709551616 from fun k x hx => by
    obtain ⟨r, -, rfl⟩ := List.mem_map.1 hx
    exact Nat.lt_trans (linVal_lt (by have := okP_lt hL.p; omega) _ _) (okP_lt hL.p).2)
  obtain ⟨vals, hvals⟩ : ∃ vals, vals = valsR L.p rows ws := ⟨_, rfl⟩
  rw [← hvals] at HVN HVA HVT ⊢
  obtain ⟨B0, hB0⟩ : ∃ B0, B0 = (if d = s then B else Option.map (fun x => x.add s) B) := ⟨_, rfl⟩
  have HB0 := Lib.hid hB0
  rw [← hB0] at hv0
  clear hvals hL hlen hrw hlt hw hB0
  go_enter Tryz.func25, Tryz.ntmps25
  go_upto_region 2 with fail
  generalize ((w.alloc _).alloc _).alloc _ = w1 at kl kt kv hb0 hsz ⊢
  have c1 := kt.cell 1
  have c2 := kv.cell 0
  have f2 := kv.frozen
  have l1 := kt.lt
  have l2 := kv.lt
  go_upto_region 3 with fail
  rw [← HB0.out]
  clear c1 c2 f2 l1 l2 e1 e2 e3 e4 e5 HB0
  have hg := set_only (w := w1) (w.heap.size + 1 + 1) 0 (.slice B0 (ws.length - s) (d - s))
  replace kv := kv.set_ 0 (.slice B0 (ws.length - s) (d - s))
  replace kv : Blk (w1.setCell ⟨w.heap.size + 1 + 1, 0, none⟩ (.slice B0 (ws.length - s) (d - s))) (w.heap.size + 1 + 1) 94 #[.slice B0 (ws.length - s) (d - s), .slice none 0 0, .slice none 0 0, .slice none 0 0] := by simpa using kv
  replace kl := kl.grown hg (fun e => by have := Option.some.inj e; omega)
  replace kt := kt.grown hg (fun e => by have := Option.some.inj e; omega)
  have hN0 : w.heap.size + 3 ≤ (w1.setCell ⟨w.heap.size + 1 + 1, 0, none⟩ (.slice B0 (ws.length - s) (d - s))).heap.size := by have := hg.size; omega
  replace hb0 := hb0.trans (below_of_only hg hb0.size (by omega))
  clear hg hsz
  generalize ws.length - s = n0 at *
  generalize d - s = d0 at *
  generalize w1.setCell _ _ = w2 at kl kt kv hb0 hN0 ⊢
  obtain ⟨V0, hV0⟩ : ∃ V0 : Value, V0 = .slice B0 n0 d0 := ⟨_, rfl⟩
  have HV0 := Lib.hid hV0
  rw [← hV0] at kv hv0
  clear hV0
  obtain ⟨TC, hTC⟩ : ∃ TC : Array Value, TC = #[.int .u64 (L.p : Int), .int .i64 (pu : Int), .int .i64 vars, .slice A rows.length c] := ⟨_, rfl⟩
  have HT0 := Lib.hid (show TC[0]? = some (.int .u64 (L.p : Int)) by rw [hTC]; rfl)
  have HT3 := Lib.hid (show TC[3]? = some (.slice A rows.length c) by rw [hTC]; rfl)
  rw [← hTC] at kt
  clear hTC
  obtain ⟨gv, hgv⟩ : ∃ gv, gv = w.heap.size + 1 + 1 := ⟨_, rfl⟩
  have n1 : w.heap.size < gv := by omega
  have n2 : w.heap.size + 1 < gv := by omega
  have n3 : w.heap.size ≠ gv := by omega
  have n4 : w.heap.size + 1 ≠ gv := by omega
  have n5 : gv + 1 = w.heap.size + 3 := by omega
  rw [← hgv] at kv ⊢
  clear hgv
  go_wp2_with fail
  go_loopw [8] (fun y wr => ∃ (k : Nat) (xs : Nat → Value), k ≤ 3 ∧ y = .int .i64 (k : Int) ∧ Blk wr w.heap.size 34 #[.int .u64 (L.p : Int), .int .i64 (L.block : Int), .int .i64 (L.queries : Int), .int .i64 (L.k : Int), .int .i64 (L.n : Int), .int .i64 (L.secret : Int), .int .i64 (L.rows : Int), .int .i64 (L.a : Int), .int .i64 (L.b : Int), .int .i64 (L.b : Int), .int .i64 (L.b : Int)] ∧ Blk wr (w.heap.size + 1) 25 TC ∧ Blk wr gv 94 #[V0, xs 0, xs 1, xs 2] ∧ (∀ j, j < k → RWx (gv + 1) none wr (xs j) (vals j)) ∧ (∀ j, k ≤ j → xs j = .slice none 0 0) ∧ Below w.heap.size w wr ∧ gv + 1 ≤ wr.heap.size) (fun y _ => 3 - (intOf y).toNat)
  case atStart => exact ⟨0, fun _ => .slice none 0 0, by omega, rfl, kl, kt, kv, fun j h => by omega, fun j _ => rfl, hb0, by omega⟩
  case round =>
    clear kl kt kv hb0 hN0
    obtain ⟨k, xs, hk, rfl, kl, kt, kv, hdone, htodo, hb0, hN0⟩ := hrel
    by_cases hlt : k < 3
    · have q1 : (k : Int) < 3 := by omega
      obtain ⟨wo, hwo⟩ : ∃ wo, wo = wr := ⟨_, rfl⟩
      subst hwo
      have hxk := htodo k (Nat.le_refl _)
      have HDN := Lib.hid hdone
      have HTD := Lib.hid htodo
      have HVNk := Lib.hid (HVN.out k)
      have HVAk := Lib.hid (HVA.out k)
      have HVTk := Lib.hid (HVT.out k)
      obtain ⟨vk, hvk⟩ : ∃ vk, vk = vals k := ⟨_, rfl⟩
      have HVK := Lib.hid hvk
      rw [← hvk] at HVNk HVAk HVTk
      have hself : updV xs k (.slice none 0 0) = xs := by rw [← hxk, updV_self]
      have kv1 : Blk wo gv 94 #[V0, updV xs k (.slice none 0 0) 0, updV xs k (.slice none 0 0) 1, updV xs k (.slice none 0 0) 2] := by rw [hself]; exact kv
      have ix := fun (w : World) (x y z : Value) => idx_lin (w := w) (x := x) (y := y) (z := z) hlt
      obtain ⟨k1, hk1⟩ : ∃ k1, k1 = k + 1 := ⟨_, rfl⟩
      have ek : (k : Int) + 1 = (k1 : Int) := by omega
      have ek2 : IntKind.i64.wrap (k1 : Int) = (k1 : Int) := wr_i64 _ (by omega) (by omega)
      have HK1 := Lib.hid hk1
      have qk : k1 < 4 := by omega
      have qk2 : (k1 : Int) < 4 := by omega
      clear hxk hself hdone htodo hvk kv hk1
      go_wp2_with fail
      go_loopw [9] (fun y wr => ∃ (i : Nat) (x : Value), i ≤ rows.length ∧ y = .int .i64 (i : Int) ∧ Blk wr gv 94 #[V0, updV xs k x 0, updV xs k x 1, updV xs k x 2] ∧ wr.ownsRow wo.heap.size 22 1 x i (U64 (vk.take i)) ∧ FromX gv wo.heap.size wo wr) (fun y _ => rows.length - (intOf y).toNat)
      case atStart => exact ⟨0, .slice none 0 0, by omega, rfl, kv1, ⟨rfl, .inl ⟨rfl, rfl⟩⟩, (fromX_moves _ _).refl _⟩
      case round =>
        clear kv1
        obtain ⟨i, x, hi, rfl, kv, hown, hfx⟩ := hrel
        have hsw : wo.heap.size ≤ wr.heap.size := hfx.2.2.2.1
        have y1 : w.heap.size < wo.heap.size := by omega
        have y2 : w.heap.size + 1 < wo.heap.size := by omega
        have y3 : gv < wo.heap.size := by omega
        have ktr := blk_fromX kt hfx y2 n4
        have hbr : Below w.heap.size w wr := hb0.trans ⟨hfx.1, hfx.2.1, hfx.2.2.1, hfx.2.2.2.1, fun b hb => hfx.2.2.2.2 b (by omega) (by omega)⟩
        have t3 := ktr.cell 3
        rw [HT3.out] at t3
        have lt := ktr.lt
        by_cases hlti : i < rows.length
        · have q2 : (i : Int) < (rows.length : Int) := by omega
          have q3 : (0 : Int) ≤ (i : Int) := by omega
          have q4 : (0 : Int) ≤ (k1 : Int) := by omega
          obtain ⟨b, q, rfl⟩ := hrd.base (by omega) (by omega)
          obtain ⟨cs, -, hc, u0, u1, u2, rfl, hu0, hu1, hu2⟩ := (hrd.below kept_RRow hbr).get hlti
          obtain ⟨cs', hl', hc', -⟩ := hrd.get hlti
          have hbw : b < w.heap.size := by
            have h := hc' 0 (by omega)
            rw [Nat.add_zero, List.getElem?_eq_getElem (by omega)] at h
            exact World.block_lt_of_cell? _ _ h
          clear hl' hc'
          have r0 : wr.cell? ⟨b, q + i * 3, none⟩ = some u0 := hc 0 (by omega)
          have r1 : wr.cell? ⟨b, q + i * 3 + 1, none⟩ = some u1 := hc 1 (by omega)
          have r2 : wr.cell? ⟨b, q + i * 3 + 2, none⟩ = some u2 := hc 2 (by omega)
          have y4 : b < wo.heap.size := by omega
          have y5 : b ≠ wo.heap.size := by omega
          have y6 : gv ≠ wo.heap.size := by omega
          have y7 : w.heap.size + 1 ≠ wo.heap.size := by omega
          have lb : b < wr.heap.size := by omega
          have t0 := ktr.cell 0
          rw [HT0.out] at t0
          obtain ⟨sel, hsel⟩ : ∃ sel, sel = (if k = 0 then u0 else if k = 1 then u1 else u2) := ⟨_, rfl⟩
          have hsr : RLin wr [sel] (sideR rows[i] k) := by
            rw [hsel]
            unfold sideR
            rcases (show k = 0 ∨ k = 1 ∨ k = 2 by omega) with h | h | h <;> subst h
            · exact hu0
            · exact hu1
            · exact hu2
          have ix1 := fun (w : World) => by have := ix w u0 u1 u2; rw [← hsel] at this; exact this
          have hz0 := RSl.slc hu0
          have hz1 := RSl.slc hu1
          have hz2 := RSl.slc hu2
          obtain ⟨As, ns, cs1, rfl⟩ := RSl.slc hsr
          have HVNi := Lib.hid (HVNk.out i hlti)
          obtain ⟨Ax, cx, rfl, -⟩ := own_form hown
          have cv : wr.cell? ⟨gv, k1, none⟩ = some (.slice Ax i cx) := by
            rw [kv.cell, HK1.out, arr_get hlt]
            simp [updV]
          obtain ⟨z, hz⟩ : ∃ z, z = linVal L.p (sideR rows[i] k) ws := ⟨_, rfl⟩
          have HV1 := Lib.hid (fun w' (hb : Below w.heap.size w w') (hl' : RLin w' [.slice As ns cs1] (sideR rows[i] k)) => by have := HVl.out As ns cs1 (sideR rows[i] k) w' hb hl'; rw [← hz] at this; exact this)
          rw [← hz] at HVNi
          have lv := kv.lt
          clear ix hsel hz hc hu0 hu1 hu2
          generalize sideR rows[i] k = lside at *
          go_upto_region 9 with fail
          refine wpV_begin (FromX wo.heap.size wo.heap.size) [13, 17, 18, 19, 21] [21] [0, 1, 2, 3, 4, 5, 6, 7, 8, 9, 10, 11, 12, 14, 16, 13, 15, 17, 18, 19, 20, 21] (by kernel_rfl) (by kernel_rfl) ?_
          refine wpV_startK (fromX_moves wo.heap.size wo.heap.size) ?_
          intro Wc HWc hacc
          have hbW : Below wr.heap.size wr Wc := by rw [HWc.out]; exact (Below.refl _ _).drew
          have hNc : wo.heap.size ≤ Wc.heap.size := by have := hbW.size; omega
          replace kv := kv.below hbW kv.lt
          replace hown := own_below hown hbW (Nat.le_refl _)
          replace hbr := below_chain hbr hbW
          replace hsr := kept_RLin _ _ _ _ hbW hsr
          replace hfx := (fromX_moves gv wo.heap.size).trans _ _ _ hfx (fromX_below hbW hsw)
          clear HWc hbW
          repeat (first | (refine wpV_skip (fromX_moves wo.heap.size wo.heap.size) rfl rfl rfl (fun _ _ _ h => h) ?_ ; simp only [Act.put, List.setIfInBounds_toArray, List.set_cons_zero, List.set_cons_succ]) | (refine wpV_light (v := ?_) (fromX_moves wo.heap.size wo.heap.size) rfl rfl rfl (fun _ _ _ h => h) ?_ ?_ ; rotate_left ; (· (intro w' hR ; (first | have hcells := fromX_cellsD ((fromX_moves wo.heap.size wo.heap.size).trans _ _ _ hacc (hR rfl)) | skip) ; clear hR ; go_simp ; try with_reducible rfl)) ; simp only [Act.put, List.setIfInBounds_toArray, List.set_cons_zero, List.set_cons_succ]))
          refine wpV_call (fromX_moves wo.heap.size wo.heap.size) rfl rfl rfl (fun _ => by go_simp <;> rfl) ((HSd.out u0 u1 u2 _ hz0 hz1 hz2).mono ?_)
          rintro e w5 ⟨rfl, hb5⟩
          refine ⟨_, rfl, fun _ => fromX_below hb5 hNc, ?_⟩
          replace hacc := (fromX_moves wo.heap.size wo.heap.size).trans _ _ _ hacc (fromX_below hb5 hNc)
          simp only [Act.put, List.setIfInBounds_toArray, List.set_cons_zero, List.set_cons_succ]
          have hN5 : wo.heap.size ≤ w5.heap.size := by have := hb5.size; omega
          replace kv := kv.below hb5 kv.lt
          replace hown := own_below hown hb5 (Nat.le_refl _)
          replace hbr := below_chain hbr hb5
          replace hsr := kept_RLin _ _ _ _ hb5 hsr
          replace hfx := (fromX_moves gv wo.heap.size).trans _ _ _ hfx (fromX_below hb5 hNc)
          clear hb5
          repeat (first | (refine wpV_skip (fromX_moves wo.heap.size wo.heap.size) rfl rfl rfl (fun _ _ _ h => h) ?_ ; simp only [Act.put, List.setIfInBounds_toArray, List.set_cons_zero, List.set_cons_succ]) | (refine wpV_light (v := ?_) (fromX_moves wo.heap.size wo.heap.size) rfl rfl rfl (fun _ _ _ h => h) ?_ ?_ ; rotate_left ; (· (intro w' hR ; (first | have hcells := fromX_cellsD ((fromX_moves wo.heap.size wo.heap.size).trans _ _ _ hacc (hR rfl)) | skip) ; clear hR ; go_simp ; try with_reducible rfl)) ; simp only [Act.put, List.setIfInBounds_toArray, List.set_cons_zero, List.set_cons_succ]))
          refine wpV_call (fromX_moves wo.heap.size wo.heap.size) rfl rfl rfl (fun _ => by go_simp <;> rfl) ((HV1.out _ hbr hsr).mono ?_)
          rintro e w6 ⟨rfl, hb6⟩
          refine ⟨_, rfl, fun _ => fromX_below hb6 hN5, ?_⟩
          replace hacc := (fromX_moves wo.heap.size wo.heap.size).trans _ _ _ hacc (fromX_below hb6 hN5)
          simp only [Act.put, List.setIfInBounds_toArray, List.set_cons_zero, List.set_cons_succ]
          have hN6 : wo.heap.size ≤ w6.heap.size := by have := hb6.size; omega
          replace kv := kv.below hb6 kv.lt
          replace hown := own_below hown hb6 (Nat.le_refl _)
          replace hbr := below_chain hbr hb6
          replace hfx := (fromX_moves gv wo.heap.size).trans _ _ _ hfx (fromX_below hb6 hN5)
          clear hb6 hsr
          repeat (first | (refine wpV_skip (fromX_moves wo.heap.size wo.heap.size) rfl rfl rfl (fun _ _ _ h => h) ?_ ; simp only [Act.put, List.setIfInBounds_toArray, List.set_cons_zero, List.set_cons_succ]) | (refine wpV_light (v := ?_) (fromX_moves wo.heap.size wo.heap.size) rfl rfl rfl (fun _ _ _ h => h) ?_ ?_ ; rotate_left ; (· (intro w' hR ; (first | have hcells := fromX_cellsD ((fromX_moves wo.heap.size wo.heap.size).trans _ _ _ hacc (hR rfl)) | skip) ; clear hR ; go_simp ; try with_reducible rfl)) ; simp only [Act.put, List.setIfInBounds_toArray, List.set_cons_zero, List.set_cons_succ]))
          refine wpV_heavy (fromX_moves wo.heap.size wo.heap.size) rfl rfl rfl ?_
          go_simp
          have hal := (Below.refl w6.heap.size w6).alloc (Nat.le_refl _) (.cells #[.int .u64 (z : Int)] 22)
          have hrd1 := rd_one w6 (.int .u64 (z : Int)) 22
          refine ⟨fun _ => fromX_below hal hN6, ?_⟩
          replace kv := kv.below hal kv.lt
          replace hown := own_below hown hal (Nat.le_refl _)
          replace hbr := below_chain hbr hal
          replace hfx := (fromX_moves gv wo.heap.size).trans _ _ _ hfx (fromX_below hal hN6)
          have hN7 := Nat.le_trans hN6 hal.size
          try simp only [Act.put, List.setIfInBounds_toArray, List.set_cons_zero, List.set_cons_succ]
          generalize w6.alloc _ = w7 at kv hown hfx hrd1 hbr hN7 ⊢
          generalize w6.heap.size = g6 at hrd1 ⊢
          clear hal hN6 hN5 hacc t0 t3 r0 r1 r2 cv
          have hacc := (fromX_moves wo.heap.size wo.heap.size).refl w7
          repeat (first | (refine wpV_skip (fromX_moves wo.heap.size wo.heap.size) rfl rfl rfl (fun _ _ _ h => h) ?_ ; simp only [Act.put, List.setIfInBounds_toArray, List.set_cons_zero, List.set_cons_succ]) | (refine wpV_light (v := ?_) (fromX_moves wo.heap.size wo.heap.size) rfl rfl rfl (fun _ _ _ h => h) ?_ ?_ ; rotate_left ; (· (intro w' hR ; (first | have hcells := fromX_cellsD ((fromX_moves wo.heap.size wo.heap.size).trans _ _ _ hacc (hR rfl)) | skip) ; clear hR ; go_simp ; try with_reducible rfl)) ; simp only [Act.put, List.setIfInBounds_toArray, List.set_cons_zero, List.set_cons_succ]))
          refine wpV_heavy (fromX_moves wo.heap.size wo.heap.size) rfl rfl rfl ?_
          refine wp_append_rd _ _ rfl el_w rfl hown rfl hrd1 (one_U64 [z]) (by omega) hN7 ?_
          intro v' wn hown' hgrow hblk
          have hvb : ∀ q, (Value.slice Ax i cx).ownBlock = some q → wo.heap.size ≤ q := fun q e => (hown.lt q e).1
          refine ⟨fun _ => fromX_row hgrow hN7 hvb, ?_⟩
          replace kv := kv.grown hgrow (fun e => by first | (have := hvb _ e; omega) | (have := hvb _ e.symm; omega))
          replace hfx := (fromX_moves gv wo.heap.size).trans _ _ _ hfx (fromX_row hgrow hN7 hvb)
          replace hown' : wn.ownsRow wo.heap.size 22 1 v' (i + 1) (U64 (vk.take (i + 1))) := lw_app (b := [z]) hown' HVNi.out
          obtain ⟨Aw, cw, rfl, -⟩ := own_form hown'
          have hNn := Nat.le_trans hN7 hgrow.size
          clear hown hgrow hblk hvb hN7 hrd1 hacc
          have hacc := (fromX_moves wo.heap.size wo.heap.size).refl wn
          have cv : wn.cell? ⟨gv, k1, none⟩ = some (.slice Ax i cx) := by
            rw [kv.cell, HK1.out, arr_get hlt]
            simp [updV]
          have fv2 := kv.frozen
          try simp only [Act.put, List.setIfInBounds_toArray, List.set_cons_zero, List.set_cons_succ]
          repeat (first | (refine wpV_skip (fromX_moves wo.heap.size wo.heap.size) rfl rfl rfl (fun _ _ _ h => h) ?_ ; simp only [Act.put, List.setIfInBounds_toArray, List.set_cons_zero, List.set_cons_succ]) | (refine wpV_light (v := ?_) (fromX_moves wo.heap.size wo.heap.size) rfl rfl rfl (fun _ _ _ h => h) ?_ ?_ ; rotate_left ; (· (intro w' hR ; (first | have hcells := fromX_cellsD ((fromX_moves wo.heap.size wo.heap.size).trans _ _ _ hacc (hR rfl)) | skip) ; clear hR ; go_simp ; try with_reducible rfl)) ; simp only [Act.put, List.setIfInBounds_toArray, List.set_cons_zero, List.set_cons_succ]))
          refine wpV_heavy (fromX_moves wo.heap.size wo.heap.size) rfl rfl rfl ?_
          go_simp
          refine ⟨fun h => Bool.noConfusion h, ?_⟩
          have hsg := set_only (w := wn) gv k1 (.slice Aw (i + 1) cw)
          replace kv := kv.set_ k1 (.slice Aw (i + 1) cw)
          rw [HK1.out, arr_set hlt, updV_twice, ← HK1.out] at kv
          have hown2 := own_stay hown' hsg y3
          replace hfx := (fromX_moves gv wo.heap.size).trans _ _ _ hfx (fromX_grown hsg hNn)
          clear hown' hsg cv fv2 hacc
          generalize wn.setCell _ _ = wz at kv hown2 hfx ⊢
          have hacc := (fromX_moves wo.heap.size wo.heap.size).refl wz
          repeat (first | (refine wpV_skip (fromX_moves wo.heap.size wo.heap.size) rfl rfl rfl (fun _ _ _ h => h) ?_ ; simp only [Act.put, List.setIfInBounds_toArray, List.set_cons_zero, List.set_cons_succ]) | (refine wpV_light (v := ?_) (fromX_moves wo.heap.size wo.heap.size) rfl rfl rfl (fun _ _ _ h => h) ?_ ?_ ; rotate_left ; (· (intro w' hR ; (first | have hcells := fromX_cellsD ((fromX_moves wo.heap.size wo.heap.size).trans _ _ _ hacc (hR rfl)) | skip) ; clear hR ; go_simp ; try with_reducible rfl)) ; simp only [Act.put, List.setIfInBounds_toArray, List.set_cons_zero, List.set_cons_succ]))
          refine wpV_done ?_
          go_wp2
          go_roundw
          case rel => exact ⟨i + 1, .slice Aw (i + 1) cw, by omega, by go_num, kv, hown2, hfx⟩
          case measure => simp [intOf]; omega
        · obtain rfl : i = rows.length := by omega
          have q2 : ¬ ((rows.length : Int) < (rows.length : Int)) := by omega
          rw [HVAk.out] at hown
          have klr := blk_fromX kl hfx y1 n3
          have hx := rwx_own (N := gv + 1) (gb := none) hown HVTk.out (by omega) (fun q e => by cases e)
          have HVK' := HVK.out
          have HD2 := Lib.hid (show ∀ j, j < k + 1 → RWx (gv + 1) none wr (updV xs k x j) (vals j) from fun j hj => by
            unfold updV
            split
            · rename_i h; rw [h, ← HVK']; exact hx
            · rename_i h
              refine rwx_keep (HDN.out j (by omega)) hsw fun b h1 h2 _ => hfx.2.2.2.2 b h2 (by omega))
          have HT2 := Lib.hid (show ∀ j, k + 1 ≤ j → updV xs k x j = .slice none 0 0 from fun j hj => by
            unfold updV
            rw [if_neg (by omega)]
            exact HTD.out j (by omega))
          clear hx HVK'
          go_wp2_with fail
          go_roundw
          case rel => exact ⟨k + 1, updV xs k x, by omega, by go_num, klr, ktr, kv, HD2.out, HT2.out, hbr, by omega⟩
          case measure => simp [intOf]; omega
    · obtain rfl : k = 3 := by omega
      have h0 := rwx_here (hdone 0 (by omega))
      have h1 := rwx_here (hdone 1 (by omega))
      have h2 := rwx_here (hdone 2 (by omega))
      obtain ⟨A1, c1, e1⟩ := rwd_form h0
      obtain ⟨A2, c2, e2⟩ := rwd_form h1
      obtain ⟨A3, c3, e3⟩ := rwd_form h2
      have hv := kept_RWd _ _ _ _ hb0 hv0
      have HH := Lib.hid (fun (w' : World) (hb : Below wr.heap.size wr w') => HCut.out V0 (xs 0) (xs 1) (xs 2) (ws.drop s) (vals 0) (vals 1) (vals 2) w' fun i hi => by
        rcases (show i = 0 ∨ i = 1 ∨ i = 2 ∨ i = 3 by omega) with rfl | rfl | rfl | rfl
        · exact kept_RWd _ _ _ _ hb hv
        · exact kept_RWd _ _ _ _ hb h0
        · exact kept_RWd _ _ _ _ hb h1
        · exact kept_RWd _ _ _ _ hb h2)
      rw [e1, e2, e3, HV0.out] at kv HH
      have cl := kl.cell
      have cv := kv.cell
      have ll := kl.lt
      have lv := kv.lt
      clear hdone htodo h0 h1 h2 hv e1 e2 e3
      unfold layCs at HH
      go_wp2_with fail
      refine (HH.out _ (Below.refl _ _)).mono ?_
      rintro e w9 ⟨v, rfl, hv, hbx⟩
      go_wp2
      go_ret
      exact ⟨_, rfl, hv, below_chain hb0 hbx⟩
end Go.Proofs.YtefnagiffllhbaaGreat

/- FftM -/
namespace Go.Proofs.YtefnagiffllhbaaGreat

/-- Congruence. -/
def Cg (p : Nat) (x y : Int) : Prop := (p : Int) ∣ x - y
theorem Cg.rfl' {p : Nat} {x : Int} : Cg p x x := ⟨0, by omega⟩
theorem Cg.of_eq {p : Nat} {x y : Int} (h : x = y) : Cg p x y := h ▸ Cg.rfl'
theorem Cg.symm {p : Nat} {x y : Int} (h : Cg p x y) : Cg p y x := by
  obtain ⟨c, hc⟩ := h
  exact ⟨-c, by rw [Int.mul_neg, ← hc]; omega⟩
theorem Cg.trans {p : Nat} {x y z : Int} (h : Cg p x y) (h2 : Cg p y z) : Cg p x z := by
  obtain ⟨c, hc⟩ := h
  obtain ⟨d, hd⟩ := h2
  exact ⟨c + d, by rw [Int.mul_add, ← hc, ← hd]; omega⟩
theorem Cg.add {p : Nat} {x y u v : Int} (h : Cg p x y) (h2 : Cg p u v) : Cg p (x + u) (y + v) := by
  obtain ⟨c, hc⟩ := h
  obtain ⟨d, hd⟩ := h2
  exact ⟨c + d, by rw [Int.mul_add, ← hc, ← hd]; omega⟩
theorem Cg.mul {p : Nat} {x y u v : Int} (h : Cg p x y) (h2 : Cg p u v) : Cg p (x * u) (y * v) := by
  obtain ⟨c, hc⟩ := h
  obtain ⟨d, hd⟩ := h2
  refine ⟨c * u + y * d, ?_⟩
  have e : x * u - y * v = (x - y) * u + y * (u - v) := by rw [Int.sub_mul, Int.mul_sub]; omega
  rw [e, hc, hd, Int.mul_add, Int.mul_assoc, ← Int.mul_assoc y, Int.mul_comm y (p : Int), Int.mul_assoc]
theorem Cg.neg {p : Nat} {x y : Int} (h : Cg p x y) : Cg p (-x) (-y) := by
  obtain ⟨c, hc⟩ := h
  exact ⟨-c, by rw [Int.mul_neg, ← hc]; omega⟩
theorem Cg.mod {p : Nat} (x : Nat) : Cg p ((x % p : Nat) : Int) (x : Int) := by
  refine ⟨-((x / p : Nat) : Int), ?_⟩
  have h := Nat.div_add_mod x p
  have h2 : ((p * (x / p) + x % p : Nat) : Int) = (x : Int) := by rw [h]
  rw [Int.natCast_add, Int.natCast_mul] at h2
  rw [Int.mul_neg]
  omega
theorem Cg.self {p : Nat} : Cg p (p : Int) 0 := ⟨1, by omega⟩
theorem Cg.pow {p : Nat} {x y : Int} (h : Cg p x y) (k : Nat) : Cg p (x ^ k) (y ^ k) := by
  induction k with
  | zero => exact Cg.of_eq (by rw [Int.pow_zero, Int.pow_zero])
  | succ k ih => rw [Int.pow_succ, Int.pow_succ]; exact ih.mul h
/-- Two residues that are congruent are equal. -/
theorem Cg.eq {p a b : Nat} (h : Cg p (a : Int) (b : Int)) (ha : a < p) (hb : b < p) : a = b := by
  obtain ⟨c, hc⟩ := h
  rcases Int.lt_trichotomy c 0 with h1 | h1 | h1
  · have : (p : Int) * c ≤ (p : Int) * (-1) := Int.mul_le_mul_of_nonneg_left (by omega) (by omega)
    omega
  · subst h1; omega
  · have : (p : Int) * 1 ≤ (p : Int) * c := Int.mul_le_mul_of_nonneg_left (by omega) (by omega)
    omega

/-- The value of a polynomial with n coefficients. -/
def evI (a : Nat → Int) (x : Int) : Nat → Int
  | 0 => 0
  | n + 1 => evI a x n + a n * x ^ n
theorem evI_cg {p : Nat} {a b : Nat → Int} {x y : Int} (h : ∀ i, Cg p (a i) (b i)) (hx : Cg p x y) : ∀ n, Cg p (evI a x n) (evI b y n)
  | 0 => Cg.rfl'
  | n + 1 => (evI_cg h hx n).add ((h n).mul (hx.pow n))
theorem evI_split (a : Nat → Int) (x : Int) : ∀ n, evI a x (2 * n) = evI (fun i => a (2 * i)) (x * x) n + x * evI (fun i => a (2 * i + 1)) (x * x) n
  | 0 => by simp [evI]
  | n + 1 => by
    have e : (x * x) ^ n = x ^ (2 * n) := by rw [Int.pow_mul]; congr 1; rw [Int.pow_succ, Int.pow_succ, Int.pow_zero, Int.one_mul]
    show evI a x (2 * n) + a (2 * n) * x ^ (2 * n) + a (2 * n + 1) * x ^ (2 * n + 1) = _
    rw [evI_split a x n]
    show _ = (evI (fun i => a (2 * i)) (x * x) n + a (2 * n) * (x * x) ^ n) + x * (evI (fun i => a (2 * i + 1)) (x * x) n + a (2 * n + 1) * (x * x) ^ n)
    rw [e, Int.pow_succ]
    grind
theorem powI_cg (p w : Nat) : ∀ k, Cg p (powI p w k : Int) ((w : Int) ^ k)
  | 0 => Cg.rfl'
  | k + 1 => by
    show Cg p ((powI p w k * w % p : Nat) : Int) _
    refine (Cg.mod _).trans ?_
    rw [Int.natCast_mul, Int.pow_succ]
    exact (powI_cg p w k).mul Cg.rfl'
theorem negP_cg (p a : Nat) (hp : 0 < p) : Cg p (negP p a : Int) (-(a : Int)) := by
  have h1 : Cg p ((a % p : Nat) : Int) (a : Int) := Cg.mod a
  refine Cg.trans ?_ h1.neg
  have h := Nat.mod_lt a hp
  unfold negP
  split
  · rename_i h0
    rw [h0]
    exact Cg.rfl'
  · exact ⟨1, by omega⟩

/-- The transform gives the values at the powers of w. -/
theorem fftP_ev (p : Nat) (hp : 0 < p) : ∀ (j : Nat) (a : Nat → Nat) (w : Nat), (j = 0 ∨ Cg p ((w : Int) ^ (2 ^ (j - 1))) (-1)) → ∀ k, k < 2 ^ j → Cg p (fftP p j a w k : Int) (evI (fun i => (a i : Int)) ((w : Int) ^ k) (2 ^ j))
  | 0, a, w, _, k, hk => by
    obtain rfl : k = 0 := by omega
    show Cg p (a 0 : Int) _
    exact Cg.of_eq (by simp [evI])
  | j + 1, a, w, hw, k, hk => by
    have hw1 : Cg p ((w : Int) ^ (2 ^ j)) (-1) := by rcases hw with h | h; · omega
                                                     · exact h
    have hw2 : j = 0 ∨ Cg p (((w * w % p : Nat) : Int) ^ (2 ^ (j - 1))) (-1) := by
      rcases Nat.eq_zero_or_pos j with h | h
      · exact Or.inl h
      · refine Or.inr (((Cg.mod (p := p) (w * w)).pow _).trans ?_)
        have e : ((w * w : Nat) : Int) ^ (2 ^ (j - 1)) = (w : Int) ^ (2 ^ j) := by
          rw [Int.natCast_mul, show 2 ^ j = 2 * 2 ^ (j - 1) by rw [Nat.mul_comm, ← Nat.pow_succ]; congr 1; omega, Int.pow_mul]
          congr 1
          rw [Int.pow_succ, Int.pow_succ, Int.pow_zero, Int.one_mul]
        rw [e]
        exact hw1
    have key : ∀ i, i < 2 ^ j → ∀ x : Int, Cg p (x * x) (((w : Int) ^ i) * ((w : Int) ^ i)) → Cg p ((fftP p j (fun i => a (2 * i)) (w * w % p) i : Int) + x * (fftP p j (fun i => a (2 * i + 1)) (w * w % p) i : Int)) (evI (fun i => (a i : Int)) x (2 ^ (j + 1))) := by
      intro i hi x hx
      have e0 : Cg p (((w * w % p : Nat) : Int) ^ i) (x * x) := by
        refine ((Cg.mod (p := p) (w * w)).pow _).trans (Cg.trans (Cg.of_eq ?_) hx.symm)
        rw [Int.natCast_mul, Int.mul_pow]
      have h1 := (fftP_ev p hp j (fun i => a (2 * i)) (w * w % p) hw2 i hi).trans (evI_cg (fun _ => Cg.rfl') e0 _)
      have h2 := (fftP_ev p hp j (fun i => a (2 * i + 1)) (w * w % p) hw2 i hi).trans (evI_cg (fun _ => Cg.rfl') e0 _)
      rw [show 2 ^ (j + 1) = 2 * 2 ^ j by rw [Nat.pow_succ, Nat.mul_comm], evI_split]
      exact h1.add (Cg.rfl'.mul h2)
    rw [fftP]
    simp only []
    split
    · rename_i hlt
      refine (Cg.mod _).trans (Cg.trans ?_ (key k hlt ((w : Int) ^ k) Cg.rfl'))
      rw [Int.natCast_add]
      refine Cg.rfl'.add ((Cg.mod _).trans ?_)
      rw [Int.natCast_mul]
      exact (powI_cg p w k).mul Cg.rfl'
    · rename_i hge
      obtain ⟨i, rfl⟩ : ∃ i, k = 2 ^ j + i := ⟨k - 2 ^ j, by omega⟩
      have hi : i < 2 ^ j := by rw [Nat.pow_succ] at hk; omega
      rw [Nat.add_sub_cancel_left]
      have ex : Cg p ((w : Int) ^ (2 ^ j + i)) (-((w : Int) ^ i)) := by
        rw [Int.pow_add]
        refine (hw1.mul Cg.rfl').trans (Cg.of_eq (by omega))
      refine (Cg.mod _).trans (Cg.trans ?_ (key i hi ((w : Int) ^ (2 ^ j + i)) ?_))
      · rw [Int.natCast_add]
        refine Cg.rfl'.add ((negP_cg p _ hp).trans ?_)
        refine ((Cg.mod _).neg).trans ?_
        rw [Int.natCast_mul]
        refine (((powI_cg p w i).mul Cg.rfl').neg).trans ?_
        rw [← Int.neg_mul]
        exact ex.symm.mul Cg.rfl'
      · refine (ex.mul ex).trans (Cg.of_eq ?_)
        rw [Int.neg_mul_neg]
end Go.Proofs.YtefnagiffllhbaaGreat

/- FftN -/
namespace Go.Proofs.YtefnagiffllhbaaGreat

/-- A power by squaring. -/
def sqm (p : Nat) : Nat → Nat → Nat → Nat
  | 0, _, _ => 1
  | f + 1, b, e => if e % 2 = 1 then b * sqm p f (b * b % p) (e / 2) % p else sqm p f (b * b % p) (e / 2)
theorem sqm_cg (p : Nat) : ∀ (f b e : Nat), e < 2 ^ f → Cg p (sqm p f b e : Int) ((b : Int) ^ e)
  | 0, b, e, h => by
    obtain rfl : e = 0 := by omega
    exact Cg.of_eq (by simp [sqm])
  | f + 1, b, e, h => by
    have h2 : e / 2 < 2 ^ f := by rw [Nat.pow_succ] at h; omega
    have ih := (sqm_cg p f (b * b % p) (e / 2) h2).trans ((Cg.mod (p := p) (b * b)).pow _)
    have e1 : ((b * b : Nat) : Int) ^ (e / 2) = (b : Int) ^ (2 * (e / 2)) := by
      rw [Int.natCast_mul, Int.pow_mul]
      congr 1
      rw [Int.pow_succ, Int.pow_succ, Int.pow_zero, Int.one_mul]
    rw [e1] at ih
    rw [sqm]
    split
    · rename_i h1
      refine (Cg.mod _).trans ?_
      rw [Int.natCast_mul, show (b : Int) ^ e = (b : Int) * (b : Int) ^ (2 * (e / 2)) by rw [Int.mul_comm, ← Int.pow_succ]; congr 1; omega]
      exact Cg.rfl'.mul ih
    · rw [show 2 * (e / 2) = e by omega] at ih
      exact ih
theorem gen_half {p : Nat} (h : okP p = true) : sqm p 64 (rowOf p).1 ((p - 1) / 2) = p - 1 ∧ (p - 1) % 2 = 0 ∧ (p - 1) / 2 < 2 ^ 64 := by
  rcases okP_cases h with rfl | rfl | rfl | rfl | rfl | rfl | rfl <;> decide +kernel
theorem gen_neg {p : Nat} (h : okP p = true) : Cg p (((rowOf p).1 : Int) ^ ((p - 1) / 2)) (-1) := by
  obtain ⟨h1, -, h3⟩ := gen_half h
  have h4 := sqm_cg p 64 (rowOf p).1 ((p - 1) / 2) h3
  rw [h1] at h4
  refine h4.symm.trans ⟨1, ?_⟩
  have := (okP_lt h).1
  omega
theorem root_half {p n j : Nat} (h : okP p = true) (hn : LenOk p n) (hj : n = 2 ^ j) : j = 0 ∨ Cg p ((rootP p n : Int) ^ (2 ^ (j - 1))) (-1) := by
  rcases Nat.eq_zero_or_pos j with h0 | h0
  · exact Or.inl h0
  · right
    refine ((Cg.mod (p := p) _).pow _).trans (Cg.trans (Cg.of_eq ?_) (gen_neg h))
    rw [Int.natCast_pow, ← Int.pow_mul]
    congr 1
    have e : n = 2 * 2 ^ (j - 1) := by rw [hj, Nat.mul_comm, ← Nat.pow_succ]; congr 1; omega
    have hd := hn.dvd
    have hpos := hn.pos
    obtain ⟨q, hq⟩ : ∃ q, p - 1 = n * q := ⟨(p - 1) / n, by have := Nat.div_add_mod (p - 1) n; omega⟩
    rw [hq, Nat.mul_div_cancel_left _ (by omega), e, Nat.mul_assoc, Nat.mul_div_cancel_left _ (by omega), Nat.mul_comm]
end Go.Proofs.YtefnagiffllhbaaGreat
