/- A part of the proof: PoI. No condition. -/
import Derived.Test.YtakjnmojigechaaGreatJA35

namespace Go.Proofs.YtakjnmojigechaaGreat
open Go.RowKit
def sel4 {α : Type} (a b c d : α) (i : Nat) : α := if i = 0 then a else if i = 1 then b else if i = 2 then c else d
theorem sel4_get {α : Type} (a b c d : α) {i : Nat} (h : i < 4) : (#[a, b, c, d] : Array α)[i]? = some (sel4 a b c d i) := by
  rcases (show i = 0 ∨ i = 1 ∨ i = 2 ∨ i = 3 by omega) with rfl | rfl | rfl | rfl <;> rfl
theorem lay_part (L : LayR) {i : Nat} (h : i < 4) : (#[.int .u64 (L.p : Int), .int .i64 (L.block : Int), .int .i64 (L.queries : Int), .int .i64 (L.k : Int), .int .i64 (L.n : Int), .int .i64 (L.secret : Int), .int .i64 (L.rows : Int), .int .i64 (L.a : Int), .int .i64 (L.b : Int), .int .i64 (L.b : Int), .int .i64 (L.b : Int)] : Array Value)[7 + i]? = some (.int .i64 ((sel4 L.a L.b L.b L.b i : Nat) : Int)) := by
  rcases (show i = 0 ∨ i = 1 ∨ i = 2 ∨ i = 3 by omega) with rfl | rfl | rfl | rfl <;> rfl
def cutRow (B : Nat) (v : List Nat) (k : Nat) : List Nat := (List.range B).map fun j => v.getD (k * B + j) 0
def cutV (B : Nat) (v : List Nat) (n : Nat) : List (List Nat) := (List.range n).map (cutRow B v)
def cutPre (B : Nat) (l : Nat → List Nat) (ps : Nat → Nat) (i : Nat) : List (List Nat) := (List.range i).flatMap fun i => cutV B (l i) (ps i)
def cutL (B : Nat) (l : Nat → List Nat) (ps : Nat → Nat) : List (List Nat) := cutPre B l ps 4
theorem cutPre_next (B : Nat) (l : Nat → List Nat) (ps : Nat → Nat) (i : Nat) : cutPre B l ps (i + 1) = cutPre B l ps i ++ cutV B (l i) (ps i) := by
  rw [cutPre, List.range_succ, List.flatMap_append]
  simp [cutPre]
theorem cutV_next (B : Nat) (v : List Nat) (k : Nat) : cutV B v (k + 1) = cutV B v k ++ [cutRow B v k] := by simp [cutV, List.range_succ]
theorem upTo_stop {n j : Nat} {F : Nat → Nat} (h : ∀ i, j ≤ i → i < n → F i = 0) : fillC n (upTo F (fun _ => 0) j) = fillC n F := fill_same fun i hi => by
  unfold upTo
  split
  · rfl
  · exact (h i (by omega) hi).symm
theorem grows_mono {M N : Nat} {w : World} {v : Value} {cs : List Value} {l : List (List Nat)} (h : GRows N w v cs l) (hN : M ≤ N) : GRows M w v cs l :=
  ⟨h.1, fun i h1 h2 u hu => h.2 i h1 h2 u fun b b1 b2 b3 => hu b (by omega) b2 b3⟩
set_option maxRecDepth 100000 in
set_option maxHeartbeats 2000000 in
theorem rCutG_any (L : LayR) (v0 v1 v2 v3 : Value) (l0 l1 l2 l3 : List Nat) (w : World) (hL : LayOk L) (hv : ∀ i, i < 4 → RWd w [sel4 v0 v1 v2 v3 i] (sel4 l0 l1 l2 l3 i)) :
    Calls Tryz.prog 96 #[.agg (layCs L), .agg #[v0, v1, v2, v3]] w fun e w' => ∃ n v cs, e = .returned v ∧ w'.ownsRow w.heap.size 28 1 v n cs ∧ GRows w.heap.size w' v cs (cutL L.block (sel4 l0 l1 l2 l3) (sel4 L.a L.b L.b L.b)) ∧ Below w.heap.size w w' := by
  have hb1 := hL.b1
  have hb2 := hL.b2
  have HPS := Lib.hid (show ∀ i, sel4 L.a L.b L.b L.b i ≤ 100000 from fun i => by
    have := hL.a
    have := hL.b
    unfold sel4
    repeat' split
    all_goals omega)
  have HLP := Lib.hid (fun i (h : i < 4) => lay_part L h)
  have HV := Lib.hid hv
  have HG := Lib.hid (fun i (h : i < 4) => sel4_get v0 v1 v2 v3 h)
  obtain ⟨l, hl⟩ : ∃ l, l = sel4 l0 l1 l2 l3 := ⟨_, rfl⟩
  obtain ⟨ps, hps⟩ : ∃ ps, ps = sel4 L.a L.b L.b L.b := ⟨_, rfl⟩
  have HCL := Lib.hid (show cutL L.block (sel4 l0 l1 l2 l3) (sel4 L.a L.b L.b L.b) = cutPre L.block l ps 4 by rw [hl, hps]; rfl)
  rw [HCL.out]
  rw [← hl] at HV
  rw [← hps] at HPS HLP
  have HP0 := Lib.hid (show cutPre L.block l ps 0 = [] from rfl)
  have HPN := Lib.hid (cutPre_next L.block l ps)
  have mk := mk_words L.block (by omega)
  clear hv hl hps HCL hL
  unfold layCs at *
  obtain ⟨kl, kv, hb0, hsz⟩ := boxes2 w 39 146 #[.int .u64 (L.p : Int), .int .i64 (L.block : Int), .int .i64 (L.queries : Int), .int .i64 (L.k : Int), .int .i64 (L.n : Int), .int .i64 (L.secret : Int), .int .i64 (L.rows : Int), .int .i64 (L.a : Int), .int .i64 (L.b : Int), .int .i64 (L.b : Int), .int .i64 (L.b : Int)] #[v0, v1, v2, v3]
  go_enter Tryz.func96, Tryz.ntmps96
  go_upto_region 1 with fail
  generalize (w.alloc _).alloc _ = w1 at kl kv hb0 hsz ⊢
  obtain ⟨N, hN⟩ : ∃ N, N = w1.heap.size := ⟨_, rfl⟩
  have HWN := Lib.hid (show w.heap.size ≤ N by omega)
  have hN1 : w.heap.size + 1 < N := by omega
  have hN2 : N ≤ w1.heap.size := by omega
  clear hsz hN
  obtain ⟨LC, hLC⟩ : ∃ LC : Array Value, LC = #[.int .u64 (L.p : Int), .int .i64 (L.block : Int), .int .i64 (L.queries : Int), .int .i64 (L.k : Int), .int .i64 (L.n : Int), .int .i64 (L.secret : Int), .int .i64 (L.rows : Int), .int .i64 (L.a : Int), .int .i64 (L.b : Int), .int .i64 (L.b : Int), .int .i64 (L.b : Int)] := ⟨_, rfl⟩
  have HL1 := Lib.hid (show LC[1]? = some (.int .i64 (L.block : Int)) by rw [hLC]; rfl)
  have HL7 := Lib.hid (show ∀ i, i < 4 → LC[7 + i]? = some (.int .i64 (ps i : Int)) from fun i h => by rw [hLC]; exact HLP.out i h)
  rw [← hLC] at kl
  clear hLC HLP
  obtain ⟨VC, hVC⟩ : ∃ VC : Array Value, VC = #[v0, v1, v2, v3] := ⟨_, rfl⟩
  have HVC := Lib.hid (show ∀ i, i < 4 → VC[i]? = some (sel4 v0 v1 v2 v3 i) from fun i h => by rw [hVC]; exact HG.out i h)
  rw [← hVC] at kv
  clear hVC HG
  generalize hBL : L.block = B at *
  have HBL := Lib.hid hBL
  clear hBL
  have g1 : (0 : Int) < (B : Int) := by omega
  have g2 : (B : Int) ≤ 256 := by omega
  go_wp2_with fail
  go_loopw [5, 6] (fun u y wr => ∃ (i n : Nat) (v : Value) (cs : List Value), v = u ∧ i ≤ 4 ∧ y = .int .i64 (i : Int) ∧ n ≤ i * 100000 ∧ Blk wr w.heap.size 39 LC ∧ Blk wr (w.heap.size + 1) 146 VC ∧ wr.ownsRow N 28 1 v n cs ∧ GRows N wr v cs (cutPre B l ps i) ∧ Below w.heap.size w wr ∧ N ≤ wr.heap.size) (fun _ y _ => 4 - (intOf y).toNat)
  case atStart => exact ⟨0, 0, _, [], rfl, by omega, rfl, by omega, kl, kv, ⟨rfl, .inl ⟨rfl, rfl⟩⟩, by rw [HP0.out]; exact grows_nil _ _ _, hb0, hN2⟩
  case round =>
    clear kl kv hb0 hN2
    obtain ⟨i, n0, v, cs, rfl, hi, rfl, hn0, kl, kv, hown, hgr, hb0, hN2⟩ := hrel
    by_cases hlt : i < 4
    · have q1 : (i : Int) < 4 := by omega
      have hvi := HV.out i hlt
      have hps := HPS.out i
      obtain ⟨p, hp⟩ : ∃ p, p = ps i := ⟨_, rfl⟩
      have HL7i := Lib.hid (HL7.out i hlt)
      have HVCi := Lib.hid (HVC.out i hlt)
      have HPNi := Lib.hid (HPN.out i)
      obtain ⟨li, hli⟩ : ∃ li, li = l i := ⟨_, rfl⟩
      obtain ⟨si, hsi⟩ : ∃ si, si = sel4 v0 v1 v2 v3 i := ⟨_, rfl⟩
      rw [← hsi] at hvi HVCi
      rw [← hli] at hvi HPNi
      rw [← hp] at hps HL7i HPNi
      clear hp hli hsi
      obtain ⟨Ai, ci, rfl⟩ := rwd_form hvi
      obtain ⟨-, hx1, hx2, hltl, -⟩ := lw_at hvi
      have gli := lw_max hx1 hx2
      obtain ⟨P0, hP0⟩ : ∃ P0, P0 = cutPre B l ps i := ⟨_, rfl⟩
      rw [← hP0] at hgr HPNi
      have HV0 := Lib.hid (show P0 ++ cutV B li 0 = P0 by simp [cutV])
      have HVN := Lib.hid (show ∀ k, (P0 ++ cutV B li k) ++ [cutRow B li k] = P0 ++ cutV B li (k + 1) from fun k => by rw [cutV_next, List.append_assoc])
      have HVI := Lib.hid hvi
      have HLTL := Lib.hid hltl
      have HX := Lib.hid hx2
      clear hP0 hvi hltl hx1 hx2
      go_wp2_with fail
      go_loopw [5, 7] (fun u y wr => ∃ (k n : Nat) (v : Value) (cs : List Value), v = u ∧ k ≤ p ∧ y = .int .i64 (k : Int) ∧ n ≤ i * 100000 + k ∧ Blk wr w.heap.size 39 LC ∧ Blk wr (w.heap.size + 1) 146 VC ∧ wr.ownsRow N 28 1 v n cs ∧ GRows N wr v cs (P0 ++ cutV B li k) ∧ Below w.heap.size w wr ∧ N ≤ wr.heap.size) (fun _ y _ => p - (intOf y).toNat)
      case atStart => exact ⟨0, n0, _, cs, rfl, Nat.zero_le _, rfl, by rw [Nat.add_zero]; exact hn0, kl, kv, hown, by rw [HV0.out]; exact hgr, hb0, hN2⟩
      case round =>
        clear kl kv hb0 hN2 hown hgr hn0
        obtain ⟨k, n1, v, cs, rfl, hk, rfl, hn1, kl, kv, hown, hgr, hb0, hN2⟩ := hrel
        have c7 := kl.cell (7 + i)
        rw [HL7i.out] at c7
        have c1 := kl.cell 1
        rw [HL1.out] at c1
        by_cases hltk : k < p
        · have q2 : (k : Int) < (p : Int) := by omega
          obtain ⟨wo, hwo⟩ : ∃ wo, wo = wr := ⟨_, rfl⟩
          subst hwo
          have HVN1 := Lib.hid (HVN.out k)
          go_wp2_with fail
          have kg := Blk.new wo 22 (fillC B fun _ => 0)
          have hbi := (Below.refl wo.heap.size wo).alloc (Nat.le_refl _) (.cells (fillC B fun _ => 0) 22)
          have hvb : ∀ q, v.ownBlock = some q → q < wo.heap.size := fun q e => (hown.lt q e).2
          have hgN : N ≤ wo.heap.size := hN2
          clear c7 c1
          generalize wo.alloc _ = w2 at kg hbi ⊢
          obtain ⟨F, hF⟩ : ∃ F : Nat → Nat, F = fun j => li.getD (k * B + j) 0 := ⟨_, rfl⟩
          have HF := Lib.hid (show ∀ j, F j = li.getD (k * B + j) 0 from fun j => by rw [hF])
          have HCR := Lib.hid (show (List.range B).map F = cutRow B li k by rw [hF]; rfl)
          obtain ⟨kb, hkb⟩ : ∃ kb, kb = k * B := ⟨_, rfl⟩
          rw [← hkb] at HF
          have hkb2 : kb ≤ 100000 * 256 := by rw [hkb]; exact Nat.mul_le_mul (by omega) hb2
          have ek : (k : Int) * (B : Int) = (kb : Int) := by rw [hkb]; exact (Int.natCast_mul _ _).symm
          have ek2 : IntKind.i64.wrap (kb : Int) = (kb : Int) := wr_i64 _ (by omega) (by omega)
          have H0 := Lib.hid (upTo_zero B F fun _ => 0)
          have HFL := Lib.hid (show ∀ j, F j < 18446744073709551616 from fun j => by
            rw [HF.out, List.getD_eq_getElem?_getD]
            cases h : li[kb + j]? with
            | none => decide
            | some x => exact HLTL.out x (List.mem_of_getElem? h))
          clear hF hkb
          go_loopw [9] (fun y wr => ∃ j : Nat, j ≤ B ∧ y = .int .i64 (j : Int) ∧ Blk wr wo.heap.size 22 (fillC B (upTo F (fun _ => 0) j)) ∧ Below wo.heap.size wo wr) (fun y _ => B - (intOf y).toNat)
          case atStart => exact ⟨0, by omega, rfl, by rw [H0.out]; exact kg, hbi⟩
          case round =>
            clear kg hbi
            obtain ⟨j, hj, rfl, kg, hbi⟩ := hrel
            obtain ⟨t, ht⟩ : ∃ t, t = kb + j := ⟨_, rfl⟩
            have et : (kb : Int) + (j : Int) = (t : Int) := by omega
            have et2 : IntKind.i64.wrap (t : Int) = (t : Int) := wr_i64 _ (by omega) (by omega)
            have HT := Lib.hid ht
            have c1 := (kl.below hbi kl.lt).cell 1
            rw [HL1.out] at c1
            have ci := (kv.below hbi kv.lt).cell i
            rw [HVCi.out] at ci
            have lk := (kl.below hbi kl.lt).lt
            have lv := (kv.below hbi kv.lt).lt
            have lg := kg.lt
            have q9 : (0 : Int) ≤ (j : Int) := by omega
            have q8 : (0 : Int) ≤ (i : Int) := by omega
            clear ht
            by_cases hj1 : j < B
            · have q3 : (j : Int) < (B : Int) := by omega
              have d3 : decide ((j : Int) < (B : Int)) = true := decide_eq_true q3
              by_cases hj2 : t < li.length
              · have q4 : (t : Int) < (li.length : Int) := by omega
                have q5 : (0 : Int) ≤ (t : Int) := by omega
                have d4 : decide ((t : Int) < (li.length : Int)) = true := decide_eq_true q4
                have hbr := below_chain hb0 hbi
                obtain ⟨b, q, rfl, hbl, hc⟩ := lw_get ((lw_at HVI.out).2.2.2.2.below hbr) hj2
                have HZ := Lib.hid (show li.getD t 0 = F j by rw [HF.out, HT.out])
                rw [HZ.out] at hc
                obtain ⟨z, hz⟩ : ∃ z, z = F j := ⟨_, rfl⟩
                have HST := Lib.hid (upTo_set (n := B) (G := fun _ => 0) hz)
                rw [← hz] at hc
                clear hz HZ hbr
                go_upto_region 10 with fail
                refine wpO_begin (Later) [] [0, 1, 2, 3, 4, 5, 6, 7, 8, 9, 10, 11, 12, 13, 14, 15, 16] (by kernel_rfl) (by kernel_rfl) ?_
                refine wpO_startK (later_moves) ?_
                intro Wc HWc hacc
                have hbW : Below wr.heap.size wr Wc := by rw [HWc.out]; exact (Below.refl _ _).drew
                repeat (first | (refine wpO_skip (later_moves) rfl rfl (fun _ _ _ h => h) ?_ ; simp only [Act.put, List.setIfInBounds_toArray, List.set_cons_zero, List.set_cons_succ]) | (refine wpO_light (v := ?_) (later_moves) rfl rfl (fun _ _ _ h => h) ?_ ?_ ; rotate_left ; (· (intro w' hR ; (first | have hcells := later_cellsD ((later_moves).trans _ _ _ hacc hR) | skip) ; go_simp ; try with_reducible rfl)) ; simp only [Act.put, List.setIfInBounds_toArray, List.set_cons_zero, List.set_cons_succ]))
                refine wpO_done ?_
                replace kg := kg.below hbW kg.lt
                replace hbi := below_chain hbi hbW
                have hc3 := (hbW.cell (p := ⟨b, q + t, none⟩) hbl).trans hc
                replace hbl := Nat.lt_of_lt_of_le hbl hbW.size
                clear c1 ci lk lv lg hacc hc
                generalize Wc = w3 at kg hbi hc3 hbl ⊢
                have c1 := (kl.below hbi kl.lt).cell 1
                rw [HL1.out] at c1
                have ci := (kv.below hbi kv.lt).cell i
                rw [HVCi.out] at ci
                have lk := (kl.below hbi kl.lt).lt
                have lv := (kv.below hbi kv.lt).lt
                have lg := kg.lt
                have cg := kg.cell j
                rw [upTo_get _ _ hj1] at cg
                go_upto_region 12 with fail
                refine wpGO_begin (Later) (later_moves) [14] [14] [0, 1, 2, 3, 4, 5, 6, 7, 8, 9, 10, 11, 12, 13, 14] (by kernel_rfl) (by kernel_rfl) ?_
                refine wpGO_start (later_moves) ?_
                intro Wc hacc
                repeat (first | (refine wpGO_skip (later_moves) rfl rfl rfl rfl (fun _ _ _ h => h) ?_ ; simp only [Act.put, List.setIfInBounds_toArray, List.set_cons_zero, List.set_cons_succ]) | (refine wpGO_light (v := ?_) (later_moves) rfl rfl rfl rfl (fun _ _ _ h => h) ?_ ?_ ; rotate_left ; (· (intro w' hR ; (first | have hcells := later_cellsD ((later_moves).trans _ _ _ hacc hR) | skip) ; go_simp ; try with_reducible rfl)) ; simp only [Act.put, List.setIfInBounds_toArray, List.set_cons_zero, List.set_cons_succ]) | (refine wpGO_free (v := ?_) rfl rfl rfl rfl (fun _ _ _ h => h) ?_ ?_ ; rotate_left ; (· (intro w' ; go_simp ; try with_reducible rfl)) ; simp only [Act.put, List.setIfInBounds_toArray, List.set_cons_zero, List.set_cons_succ]))
                refine wpGO_heavy rfl rfl rfl rfl ?_
                intro wh hRh
                replace hacc := (later_moves).trans _ _ _ hacc hRh
                have hxd := below_chain (Below.refl w3.heap.size w3).drew hacc
                replace kg := kg.below hxd kg.lt
                replace hbi := below_chain hbi hxd
                clear hxd hacc hRh lk lv lg c1 ci cg hc3 hbl
                have c2 := kg.cell j
                rw [upTo_get _ _ hj1] at c2
                have f2 := kg.frozen
                go_simp
                refine ⟨fun h => Bool.noConfusion h, ?_⟩
                have hg := set_only (w := wh) wo.heap.size j (.int .u64 (z : Int))
                replace kg := kg.set_ j (.int .u64 (z : Int))
                rw [HST.out] at kg
                replace hbi := hbi.trans (below_of_only hg hbi.size (Nat.le_refl _))
                clear hg f2 c2
                generalize wh.setCell _ _ = we at kg hbi ⊢
                refine wpGO_doneP rfl ?_
                go_wp2_with fail
                go_roundw
                case rel => exact ⟨j + 1, by omega, by go_num, kg, hbi⟩
                case measure => simp [intOf]; omega
              · have d4 : decide ((t : Int) < (li.length : Int)) = false := decide_eq_false (by omega)
                have HST := Lib.hid (show fillC B (upTo F (fun _ => 0) j) = fillC B F from upTo_stop fun x h1 _ => by
                  rw [HF.out, getD_out]
                  have := HT.out
                  omega)
                go_upto_region 10 with fail
                refine wpO_begin (Later) [] [0, 1, 2, 3, 4, 5, 6, 7, 8, 9, 10, 11, 12, 13, 14, 15, 16] (by kernel_rfl) (by kernel_rfl) ?_
                refine wpO_startK (later_moves) ?_
                intro Wc HWc hacc
                have hbW : Below wr.heap.size wr Wc := by rw [HWc.out]; exact (Below.refl _ _).drew
                repeat (first | (refine wpO_skip (later_moves) rfl rfl (fun _ _ _ h => h) ?_ ; simp only [Act.put, List.setIfInBounds_toArray, List.set_cons_zero, List.set_cons_succ]) | (refine wpO_light (v := ?_) (later_moves) rfl rfl (fun _ _ _ h => h) ?_ ?_ ; rotate_left ; (· (intro w' hR ; (first | have hcells := later_cellsD ((later_moves).trans _ _ _ hacc hR) | skip) ; go_simp ; try with_reducible rfl)) ; simp only [Act.put, List.setIfInBounds_toArray, List.set_cons_zero, List.set_cons_succ]))
                refine wpO_done ?_
                replace kg := kg.below hbW kg.lt
                replace hbi := below_chain hbi hbW
                clear c1 ci lk lv lg hacc
                generalize Wc = w3 at kg hbi ⊢
                rw [HST.out] at kg
                replace kl := kl.below hbi kl.lt
                replace kv := kv.below hbi kv.lt
                replace hb0 := below_chain hb0 hbi
                replace hN2 := Nat.le_trans hN2 hbi.size
                replace hown := own_below hown hbi (Nat.le_refl _)
                replace hgr := grows_below hgr hbi
                have hx := rwx_fill (N := N) (gb := v.ownBlock) kg (fun j _ => HFL.out j) (by simp [maxLen]; omega) hgN (fun e => by have := hvb _ e.symm; omega)
                rw [HCR.out] at hx
                clear kg
                go_wp2_with (at_builtin; refine wpl_append rfl _ _ rfl el_ww rfl (hown.alloc _) rfl (rd_one _ _ _) (by intro u hu; simp at hu; subst hu; rfl) (by omega) (by simp; omega) ?_)
                intro v' wn hown' hgrow hblk
                have hal := (Below.refl w3.heap.size w3).alloc (Nat.le_refl _) (.cells #[.slice (some ⟨wo.heap.size, 0, none⟩) B B] 28)
                replace hgr := grows_below hgr hal
                replace hx := rwx_keep hx hal.size (fun b _ h2 _ => hal.block b h2)
                have hgn := grows_app hgr hx hgrow (by simpa using hblk)
                rw [HVN1.out] at hgn
                have hBx := lw_grow (hown.alloc _) hgrow (by simp; omega)
                have hNw : w.heap.size ≤ N := by omega
                have hvN : ∀ q, v.ownBlock = some q → N ≤ q := fun q e => (hown.lt q e).1
                replace kl := kl.below hal kl.lt
                replace kv := kv.below hal kv.lt
                replace hb0 := below_chain hb0 hal
                replace hN2 := Nat.le_trans hN2 hal.size
                replace kl := kl.grown hgrow (fun e => by first | (have := hvN _ e; omega) | (have := hvN _ e.symm; omega))
                replace kv := kv.grown hgrow (fun e => by first | (have := hvN _ e; omega) | (have := hvN _ e.symm; omega))
                replace hb0 := hb0.trans (hBx.mono hNw)
                replace hN2 := Nat.le_trans hN2 hgrow.size
                clear hgrow hblk hBx hal hown hgr hx hbi
                go_wp2
                go_roundw
                case rel => exact ⟨k + 1, n1 + 1, _, _, rfl, by omega, by go_num, by omega, kl, kv, hown', hgn, hb0, hN2⟩
                case measure => simp [intOf]; omega
            · have d3 : decide ((j : Int) < (B : Int)) = false := decide_eq_false (by omega)
              have HST := Lib.hid (show fillC B (upTo F (fun _ => 0) j) = fillC B F from upTo_stop fun x h1 h2 => by omega)
              go_upto_region 10 with fail
              refine wpO_begin (Later) [] [0, 1, 2, 3, 4, 5, 6, 7, 8, 9, 10, 11, 12, 13, 14, 15, 16] (by kernel_rfl) (by kernel_rfl) ?_
              refine wpO_startK (later_moves) ?_
              intro Wc HWc hacc
              have hbW : Below wr.heap.size wr Wc := by rw [HWc.out]; exact (Below.refl _ _).drew
              repeat (first | (refine wpO_skip (later_moves) rfl rfl (fun _ _ _ h => h) ?_ ; simp only [Act.put, List.setIfInBounds_toArray, List.set_cons_zero, List.set_cons_succ]) | (refine wpO_light (v := ?_) (later_moves) rfl rfl (fun _ _ _ h => h) ?_ ?_ ; rotate_left ; (· (intro w' hR ; (first | have hcells := later_cellsD ((later_moves).trans _ _ _ hacc hR) | skip) ; go_simp ; try with_reducible rfl)) ; simp only [Act.put, List.setIfInBounds_toArray, List.set_cons_zero, List.set_cons_succ]))
              refine wpO_done ?_
              replace kg := kg.below hbW kg.lt
              replace hbi := below_chain hbi hbW
              clear c1 ci lk lv lg hacc
              generalize Wc = w3 at kg hbi ⊢
              rw [HST.out] at kg
              replace kl := kl.below hbi kl.lt
              replace kv := kv.below hbi kv.lt
              replace hb0 := below_chain hb0 hbi
              replace hN2 := Nat.le_trans hN2 hbi.size
              replace hown := own_below hown hbi (Nat.le_refl _)
              replace hgr := grows_below hgr hbi
              have hx := rwx_fill (N := N) (gb := v.ownBlock) kg (fun j _ => HFL.out j) (by simp [maxLen]; omega) hgN (fun e => by have := hvb _ e.symm; omega)
              rw [HCR.out] at hx
              clear kg
              go_wp2_with (at_builtin; refine wpl_append rfl _ _ rfl el_ww rfl (hown.alloc _) rfl (rd_one _ _ _) (by intro u hu; simp at hu; subst hu; rfl) (by omega) (by simp; omega) ?_)
              intro v' wn hown' hgrow hblk
              have hal := (Below.refl w3.heap.size w3).alloc (Nat.le_refl _) (.cells #[.slice (some ⟨wo.heap.size, 0, none⟩) B B] 28)
              replace hgr := grows_below hgr hal
              replace hx := rwx_keep hx hal.size (fun b _ h2 _ => hal.block b h2)
              have hgn := grows_app hgr hx hgrow (by simpa using hblk)
              rw [HVN1.out] at hgn
              have hBx := lw_grow (hown.alloc _) hgrow (by simp; omega)
              have hNw : w.heap.size ≤ N := by omega
              have hvN : ∀ q, v.ownBlock = some q → N ≤ q := fun q e => (hown.lt q e).1
              replace kl := kl.below hal kl.lt
              replace kv := kv.below hal kv.lt
              replace hb0 := below_chain hb0 hal
              replace hN2 := Nat.le_trans hN2 hal.size
              replace kl := kl.grown hgrow (fun e => by first | (have := hvN _ e; omega) | (have := hvN _ e.symm; omega))
              replace kv := kv.grown hgrow (fun e => by first | (have := hvN _ e; omega) | (have := hvN _ e.symm; omega))
              replace hb0 := hb0.trans (hBx.mono hNw)
              replace hN2 := Nat.le_trans hN2 hgrow.size
              clear hgrow hblk hBx hal hown hgr hx hbi
              go_wp2
              go_roundw
              case rel => exact ⟨k + 1, n1 + 1, _, _, rfl, by omega, by go_num, by omega, kl, kv, hown', hgn, hb0, hN2⟩
              case measure => simp [intOf]; omega
        · obtain rfl : k = p := by omega
          have q2 : ¬ ((k : Int) < (k : Int)) := by omega
          rw [← HPNi.out] at hgr
          go_wp2_with fail
          go_roundw
          case rel => exact ⟨i + 1, n1, _, cs, rfl, by omega, by go_num, by omega, kl, kv, hown, hgr, hb0, hN2⟩
          case measure => simp [intOf]; omega
    · obtain rfl : i = 4 := by omega
      rw [← HBL.out] at hgr
      go_wp2
      go_ret
      exact ⟨_, _, _, rfl, own_base hown HWN.out, grows_mono hgr HWN.out, hb0⟩
theorem rCut_any (L : LayR) (v0 v1 v2 v3 : Value) (l0 l1 l2 l3 : List Nat) (w : World) (hL : LayOk L) (hv : ∀ i, i < 4 → RWd w [sel4 v0 v1 v2 v3 i] (sel4 l0 l1 l2 l3 i)) :
    Calls Tryz.prog 96 #[.agg (layCs L), .agg #[v0, v1, v2, v3]] w fun e w' => ∃ v, e = .returned v ∧ RRows w' [v] (cutL L.block (sel4 l0 l1 l2 l3) (sel4 L.a L.b L.b L.b)) ∧ Below w.heap.size w w' := by
  refine (rCutG_any L v0 v1 v2 v3 l0 l1 l2 l3 w hL hv).mono ?_
  rintro e w' ⟨n, v, cs, rfl, ho, hg, hb⟩
  exact ⟨v, rfl, grows_done hg ho, hb⟩
end Go.Proofs.YtakjnmojigechaaGreat
