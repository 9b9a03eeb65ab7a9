/-
  ref27.Of.
-/
import Derived.Test.YtkaecidnkkcbaaaOfH
namespace Go.Proofs.Ytkaecidnkkcbaaa
open Go.RowKit

set_option maxRecDepth 100000 in
set_option maxHeartbeats 1000000 in
theorem of_any (L : LayR) (j : Nat) (A : Option Addr) (n c : Nat) (x : List Nat) (w : World) (C : World → Prop) (hC : C w) (hL : LayOk L) (hn : L.n = 2 ^ j) (hj : j ≤ 10) (hx : RWF C [.slice A n c] x)
    (hlen : x.length = 1 + L.k + (L.k + L.block - 1) + (2 * L.k - 1) + L.queries * (L.a + L.b + L.b + L.b + 3) + L.queries + L.queries * j) :
    Calls Try.prog 32 #[.agg (layCs L), .slice A n c] w fun e w' => ∃ S, e = .returned (.agg (prCs (ofNums L j x) S)) ∧ (∀ u, C u → (∀ b, w.heap.size ≤ b → b < w'.heap.size → u.heap[b]? = w'.heap[b]?) → PrIn u (ofNums L j x) S) ∧ Below w.heap.size w w' := by
  have HLen := Lib.hid (fun w => lengths_any L w hL)
  have HD := Lib.hid (fun w => depth_any L.n j w hn hj)
  have HT := Lib.hid (fun w => rTotal_any L.p L.block L.queries L.k L.n L.secret L.rows L.a L.b L.b L.b w hL.a hL.b hL.b hL.b)
  have hk := hL.k
  have hb1 := hL.b1
  have hb2 := hL.b2
  have hq1 := hL.q1
  have hq2 := hL.q2
  have hT : L.a + L.b + L.b + L.b ≤ 400000 := by have := hL.a; have := hL.b; omega
  obtain ⟨PR, hPR⟩ : ∃ PR, PR = ofNums L j x := ⟨_, rfl⟩
  rw [← hPR]
  have HO : Hid (PR = { root := x.getD 0 0, code := (x.drop 1).take L.k, linear := (x.drop (1 + L.k)).take (L.k + L.block - 1), quad := ((x.drop (1 + L.k)).drop (L.k + L.block - 1)).take (2 * L.k - 1), cols := chunks L.queries (L.a + L.b + L.b + L.b + 3) (((x.drop (1 + L.k)).drop (L.k + L.block - 1)).drop (2 * L.k - 1)), salts := ((((x.drop (1 + L.k)).drop (L.k + L.block - 1)).drop (2 * L.k - 1)).drop (L.queries * (L.a + L.b + L.b + L.b + 3))).take L.queries, paths := chunks L.queries j (((((x.drop (1 + L.k)).drop (L.k + L.block - 1)).drop (2 * L.k - 1)).drop (L.queries * (L.a + L.b + L.b + L.b + 3))).drop L.queries) }) := by rw [hPR]; exact rfl
  clear hPR
  have i1 : (L.k : Int) ≤ 320 := by omega
  revert HLen HT hlen HO
  generalize hX : L.k + L.block - 1 = X
  generalize hY : 2 * L.k - 1 = Y
  generalize hTT : L.a + L.b + L.b + L.b = T at *
  generalize hT3 : T + 3 = T3
  generalize hK1 : 1 + L.k = K1
  intro hlen HLen HT HO
  obtain ⟨hnx, hnc, hcm, -, hrd⟩ := word_at (hx w hC)
  have hM : L.queries * T3 ≥ 0 := Nat.zero_le _
  obtain ⟨b0, q0, rfl, hbl0, hc0⟩ := word_get (j := 0) (by rw [← hnx]; exact hrd) (by omega)
  obtain ⟨Ac, ccc, hcode, -, -⟩ := cut_get hx hC 1 L.k (by omega)
  rw [hK1] at hcode
  obtain ⟨A1, n1, c1, h1, e1, l1⟩ := from_get hx hC K1 (by omega)
  have hlin := head_get h1.rd X (by rw [List.length_drop]; omega)
  obtain ⟨A2, n2, c2, h2, e2, l2⟩ := from_get h1.rd hC X (by rw [List.length_drop]; omega)
  have hquad := head_get h2.rd Y (by rw [List.length_drop, List.length_drop]; omega)
  obtain ⟨A3, n3, c3, h3, e3, l3⟩ := from_get h2.rd hC Y (by rw [List.length_drop, List.length_drop]; omega)
  have sc := hcode.eq
  simp [sliced, add_none] at sc
  have s1 := h1.eq
  simp [sliced, add_none] at s1
  have s2 := h2.eq
  simp [sliced] at s2
  have s3 := h3.eq
  simp [sliced] at s3
  simp only [Nat.add_zero] at hc0
  have u1 : (1 : Int) + (L.k : Int) = (K1 : Int) := by omega
  have u2 : IntKind.i64.wrap (K1 : Int) = (K1 : Int) := wr_i64 _ (by omega) (by omega)
  have v1 : (1 : Int) ≤ (K1 : Int) := by omega
  have v2 : (K1 : Int) ≤ (c : Int) := by omega
  have v3 : (K1 : Int) ≤ (n : Int) := by omega
  have v4 : (X : Int) ≤ (c1 : Int) := by omega
  have v5 : (X : Int) ≤ (n1 : Int) := by omega
  have v6 : (Y : Int) ≤ (c2 : Int) := by omega
  have v7 : (Y : Int) ≤ (n2 : Int) := by omega
  have v8 : (0 : Int) < (n : Int) := by omega
  have v9 : 0 < n := by omega
  have HC := Lib.hid (And.intro hcode.rd (And.intro hlin (And.intro hquad h3.rd)))
  have HN := Lib.hid (show n3 = L.queries * T3 + L.queries + L.queries * j by omega)
  have HX := Lib.hid hx
  have HCw := Lib.hid hC
  have HRT := Lib.hid (show x.getD 0 0 < 18446744073709551616 by
    rw [List.getD_eq_getElem?_getD, List.getElem?_eq_getElem (show 0 < x.length by omega)]
    exact (word_at (hx w hC)).2.2.2.1 _ (List.getElem_mem _))
  have H3 := Lib.hid l3
  have HQ := Lib.hid (And.intro hq1 hq2)
  have HT3 := Lib.hid hT3
  have HTb := Lib.hid hT
  clear hC hcode h1 hlin h2 hquad h3 hx hrd hlen hM e1 e2 e3 l1 l2 l3 hnx hnc hcm hX hY hTT hT3 hK1 hL hn hj hk hb1 hb2 hq1 hq2 hT
  generalize x.getD 0 0 = rt at *
  revert HC HO
  generalize (x.drop 1).take L.k = C1
  generalize (x.drop K1).take X = C2
  generalize ((x.drop K1).drop X).take Y = C3
  generalize ((x.drop K1).drop X).drop Y = Y3
  intro HC HO
  unfold layCs at HLen ⊢
  go_enter Try.func32, Try.ntmps32
  go_wp2_with fail
  refine (HLen.out _).mono ?_
  rintro e w1 ⟨rfl, hb⟩
  obtain ⟨k1, k2, hbw⟩ := two_boxes hb
  have kl := k1.alloc (.cells #[.int .i64 (L.k : Int), .int .i64 (X : Int), .int .i64 (Y : Int)] 71)
  have kr := k2.alloc (.cells #[.int .i64 (L.k : Int), .int .i64 (X : Int), .int .i64 (Y : Int)] 71)
  have ka := Blk.new w1 71 #[.int .i64 (L.k : Int), .int .i64 (X : Int), .int .i64 (Y : Int)]
  have hbl := hbw.alloc hbw.size (.cells #[.int .i64 (L.k : Int), .int .i64 (X : Int), .int .i64 (Y : Int)] 71)
  have hg5 : w.heap.size + 1 < w1.heap.size := k2.lt
  clear hb k1 k2 hbw
  go_wp2_with fail
  revert kl kr ka hbl hg5
  generalize w1.alloc _ = w2
  generalize w1.heap.size = g5
  intro kl kr ka hbl hg5
  have hx0 := later_cell hbl hc0
  have lx0 := World.block_lt_of_cell? _ _ hx0
  have cl := kl.cell
  have ca := ka.cell
  have la := ka.lt
  have ll := kl.lt
  generalize hw2 : w2.heap.size = B
  have HB2 := Lib.hid hw2
  rw [hw2] at lx0 la ll
  clear hw2
  refine wpO_begin (From B) [9, 10] [0, 1, 2, 3, 4, 5, 6, 7, 8, 9, 10] (by kernel_rfl) (by kernel_rfl) ?_
  refine wpO_startK (from_moves B) ?_
  intro Wc HWc hacc
  repeat (first | (refine wpO_skip (from_moves B) rfl rfl (fun _ _ _ h => h) ?_ ; simp only [Act.put, List.setIfInBounds_toArray, List.set_cons_zero, List.set_cons_succ]) | (refine wpO_light (v := ?_) (from_moves B) rfl rfl (fun _ _ _ h => h) ?_ ?_ ; rotate_left ; (· (intro w' hR ; (first | have hcells := from_cellsD ((from_moves B).trans _ _ _ hacc hR) | skip) ; go_simp ; try with_reducible rfl)) ; simp only [Act.put, List.setIfInBounds_toArray, List.set_cons_zero, List.set_cons_succ]))
  have hWB : Wc.heap.size = B := by rw [HWc.out]; exact HB2.out
  replace kl := kl.drew
  replace kr := kr.drew
  replace ka := ka.drew
  replace hbl := hbl.drew
  rw [← HWc.out] at kl kr ka hbl
  refine wpO_heavy (from_moves B) rfl rfl rfl ?_
  go_simp
  refine ⟨from_later ((Below.refl _ _).alloc (Nat.le_refl _) _) (by omega), ?_⟩
  have k6 := Blk.new Wc 35 #[.int .u64 0, .slice none 0 0, .slice none 0 0, .slice none 0 0, .slice none 0 0, .slice none 0 0, .slice none 0 0]
  replace kl := kl.alloc (.cells #[.int .u64 0, .slice none 0 0, .slice none 0 0, .slice none 0 0, .slice none 0 0, .slice none 0 0, .slice none 0 0] 35)
  replace kr := kr.alloc (.cells #[.int .u64 0, .slice none 0 0, .slice none 0 0, .slice none 0 0, .slice none 0 0, .slice none 0 0, .slice none 0 0] 35)
  replace ka := ka.alloc (.cells #[.int .u64 0, .slice none 0 0, .slice none 0 0, .slice none 0 0, .slice none 0 0, .slice none 0 0, .slice none 0 0] 35)
  replace hbl := hbl.alloc hbl.size (.cells #[.int .u64 0, .slice none 0 0, .slice none 0 0, .slice none 0 0, .slice none 0 0, .slice none 0 0, .slice none 0 0] 35)
  rw [hWB] at k6
  clear hWB HWc cl ca hx0 hacc
  revert k6 kl kr ka hbl
  generalize Wc.alloc _ = W3
  intro k6 kl kr ka hbl
  have c6 := k6.cell
  have f6 := k6.frozen
  have hBg : B ≤ B := Nat.le_refl _
  have hwB : w.heap.size ≤ B := by omega
  refine wpO_heavy (from_moves B) rfl rfl rfl ?_
  go_simp
  refine ⟨set7_below (g := B) (Below.refl B W3) hBg (.int .u64 (rt : Int)) (.slice Ac L.k ccc) (.slice none 0 0) (.slice none 0 0) (.slice none 0 0) (.slice none 0 0) (.slice none 0 0), ?_⟩
  have h7 := set7_below (g := B) (Below.refl B W3) hBg (.int .u64 (rt : Int)) (.slice Ac L.k ccc) (.slice none 0 0) (.slice none 0 0) (.slice none 0 0) (.slice none 0 0) (.slice none 0 0)
  replace k6 := set7_blk k6 (.int .u64 (rt : Int)) (.slice Ac L.k ccc) (.slice none 0 0) (.slice none 0 0) (.slice none 0 0) (.slice none 0 0) (.slice none 0 0)
  replace kl := kl.below h7 ll
  replace ka := ka.below h7 la
  replace kr := kr.below h7 (by omega)
  replace hbl := hbl.trans (h7.mono hwB)
  clear h7 c6 f6
  revert k6 kl kr ka hbl
  generalize ((((((World.setCell _ _ _).setCell _ _).setCell _ _).setCell _ _).setCell _ _).setCell _ _).setCell _ _ = W4
  intro k6 kl ka kr hbl
  refine wpO_done ?_
  have cl := kl.cell
  have ca := ka.cell
  have c6 := k6.cell
  have f6 := k6.frozen
  go_wp2_with fail
  refine wpO_begin (From B) [9] [0, 1, 2, 3, 4, 5, 6, 7, 8, 9, 10] (by kernel_rfl) (by kernel_rfl) ?_
  refine wpO_startK (from_moves B) ?_
  intro Wc HWc hacc
  repeat (first | (refine wpO_skip (from_moves B) rfl rfl (fun _ _ _ h => h) ?_ ; simp only [Act.put, List.setIfInBounds_toArray, List.set_cons_zero, List.set_cons_succ]) | (refine wpO_light (v := ?_) (from_moves B) rfl rfl (fun _ _ _ h => h) ?_ ?_ ; rotate_left ; (· (intro w' hR ; (first | have hcells := from_cellsD ((from_moves B).trans _ _ _ hacc hR) | skip) ; go_simp ; try with_reducible rfl)) ; simp only [Act.put, List.setIfInBounds_toArray, List.set_cons_zero, List.set_cons_succ]))
  replace k6 := k6.drew
  replace kl := kl.drew
  replace ka := ka.drew
  replace kr := kr.drew
  replace hbl := hbl.drew
  rw [← HWc.out] at k6 kl ka kr hbl
  clear cl ca c6 f6 HWc hacc
  have c6 := k6.cell
  have f6 := k6.frozen
  refine wpO_heavy (from_moves B) rfl rfl rfl ?_
  go_simp
  refine ⟨from_set _ _ hBg, ?_⟩
  have h7 := from_set (B := B) (g := B) (i := 2) Wc (.slice A1 X c1) hBg
  replace k6 := k6.set_ 2 (.slice A1 X c1)
  simp at k6
  replace kl := kl.below h7 ll
  replace ka := ka.below h7 la
  replace kr := kr.below h7 (by omega)
  replace hbl := hbl.trans (h7.mono hwB)
  clear c6 f6
  revert k6 kl ka kr hbl h7
  generalize Wc.setCell _ _ = W5
  intro h7 k6 kl ka kr hbl
  have hacc := (from_moves B).refl W5
  repeat (first | (refine wpO_skip (from_moves B) rfl rfl (fun _ _ _ h => h) ?_ ; simp only [Act.put, List.setIfInBounds_toArray, List.set_cons_zero, List.set_cons_succ]) | (refine wpO_light (v := ?_) (from_moves B) rfl rfl (fun _ _ _ h => h) ?_ ?_ ; rotate_left ; (· (intro w' hR ; (first | have hcells := from_cellsD ((from_moves B).trans _ _ _ hacc hR) | skip) ; go_simp ; try with_reducible rfl)) ; simp only [Act.put, List.setIfInBounds_toArray, List.set_cons_zero, List.set_cons_succ]))
  refine wpO_done ?_
  clear h7 hacc Wc
  have cl := kl.cell
  have ca := ka.cell
  have c6 := k6.cell
  have f6 := k6.frozen
  go_wp2_with fail
  refine wpO_begin (From B) [9] [0, 1, 2, 3, 4, 5, 6, 7, 8, 9, 10] (by kernel_rfl) (by kernel_rfl) ?_
  refine wpO_startK (from_moves B) ?_
  intro Wc HWc hacc
  repeat (first | (refine wpO_skip (from_moves B) rfl rfl (fun _ _ _ h => h) ?_ ; simp only [Act.put, List.setIfInBounds_toArray, List.set_cons_zero, List.set_cons_succ]) | (refine wpO_light (v := ?_) (from_moves B) rfl rfl (fun _ _ _ h => h) ?_ ?_ ; rotate_left ; (· (intro w' hR ; (first | have hcells := from_cellsD ((from_moves B).trans _ _ _ hacc hR) | skip) ; go_simp ; try with_reducible rfl)) ; simp only [Act.put, List.setIfInBounds_toArray, List.set_cons_zero, List.set_cons_succ]))
  replace k6 := k6.drew
  replace kl := kl.drew
  replace ka := ka.drew
  replace kr := kr.drew
  replace hbl := hbl.drew
  rw [← HWc.out] at k6 kl ka kr hbl
  clear cl ca c6 f6 HWc hacc
  have c6 := k6.cell
  have f6 := k6.frozen
  refine wpO_heavy (from_moves B) rfl rfl rfl ?_
  go_simp
  refine ⟨from_set _ _ hBg, ?_⟩
  have h7 := from_set (B := B) (g := B) (i := 3) Wc (.slice A2 Y c2) hBg
  replace k6 := k6.set_ 3 (.slice A2 Y c2)
  simp at k6
  replace kl := kl.below h7 ll
  replace ka := ka.below h7 la
  replace kr := kr.below h7 (by omega)
  replace hbl := hbl.trans (h7.mono hwB)
  clear c6 f6
  revert k6 kl ka kr hbl h7
  generalize Wc.setCell _ _ = W6
  intro h7 k6 kl ka kr hbl
  have hacc := (from_moves B).refl W6
  repeat (first | (refine wpO_skip (from_moves B) rfl rfl (fun _ _ _ h => h) ?_ ; simp only [Act.put, List.setIfInBounds_toArray, List.set_cons_zero, List.set_cons_succ]) | (refine wpO_light (v := ?_) (from_moves B) rfl rfl (fun _ _ _ h => h) ?_ ?_ ; rotate_left ; (· (intro w' hR ; (first | have hcells := from_cellsD ((from_moves B).trans _ _ _ hacc hR) | skip) ; go_simp ; try with_reducible rfl)) ; simp only [Act.put, List.setIfInBounds_toArray, List.set_cons_zero, List.set_cons_succ]))
  refine wpO_done ?_
  clear h7 hacc Wc
  have cl := kl.cell
  have ca := ka.cell
  have c6 := k6.cell
  have f6 := k6.frozen
  go_wp2_with fail
  have l6 := kl.lt
  have hT5 : IntKind.i64.wrap ((T : Int) + 3) = (T3 : Int) := by have := HT3.out; have := HTb.out; rw [wr_i64 _ (by omega) (by omega)]; omega
  have hT6 : (T : Int) + 3 = (T3 : Int) := by have := HT3.out; omega
  have hT7 : IntKind.i64.wrap (T3 : Int) = (T3 : Int) := by have := HT3.out; have := HTb.out; exact wr_i64 _ (by omega) (by omega)
  refine wpO_begin (Later) [1, 5] [0, 3, 4, 1, 2, 5, 6, 7] (by kernel_rfl) (by kernel_rfl) ?_
  refine wpO_start (later_moves) ?_
  intro Wc hacc
  repeat (first | (refine wpO_skip (later_moves) rfl rfl (fun _ _ _ h => h) ?_ ; simp only [Act.put, List.setIfInBounds_toArray, List.set_cons_zero, List.set_cons_succ]) | (refine wpO_light (v := ?_) (later_moves) rfl rfl (fun _ _ _ h => h) ?_ ?_ ; rotate_left ; (· (intro w' hR ; (first | have hcells := later_cellsD ((later_moves).trans _ _ _ hacc hR) | skip) ; go_simp ; try with_reducible rfl)) ; simp only [Act.put, List.setIfInBounds_toArray, List.set_cons_zero, List.set_cons_succ]))
  refine wpO_call (later_moves) rfl rfl rfl (fun _ => by go_simp <;> rfl) ((HT.out _).mono ?_)
  rintro e w7 ⟨rfl, hb7⟩
  refine ⟨_, rfl, hb7, ?_⟩
  replace hacc := (later_moves).trans _ _ _ hacc (hb7)
  simp only [Act.put, List.setIfInBounds_toArray, List.set_cons_zero, List.set_cons_succ]
  repeat (first | (refine wpO_skip (later_moves) rfl rfl (fun _ _ _ h => h) ?_ ; simp only [Act.put, List.setIfInBounds_toArray, List.set_cons_zero, List.set_cons_succ]) | (refine wpO_light (v := ?_) (later_moves) rfl rfl (fun _ _ _ h => h) ?_ ?_ ; rotate_left ; (· (intro w' hR ; (first | have hcells := later_cellsD ((later_moves).trans _ _ _ hacc hR) | skip) ; go_simp ; try with_reducible rfl)) ; simp only [Act.put, List.setIfInBounds_toArray, List.set_cons_zero, List.set_cons_succ]))
  refine wpO_call (later_moves) rfl rfl rfl (fun _ => by go_simp <;> rfl) ((HD.out _).mono ?_)
  rintro e w8 ⟨rfl, rfl⟩
  refine ⟨_, rfl, later_moves.refl _, ?_⟩
  replace hacc := (later_moves).trans _ _ _ hacc (later_moves.refl _)
  simp only [Act.put, List.setIfInBounds_toArray, List.set_cons_zero, List.set_cons_succ]
  repeat (first | (refine wpO_skip (later_moves) rfl rfl (fun _ _ _ h => h) ?_ ; simp only [Act.put, List.setIfInBounds_toArray, List.set_cons_zero, List.set_cons_succ]) | (refine wpO_light (v := ?_) (later_moves) rfl rfl (fun _ _ _ h => h) ?_ ?_ ; rotate_left ; (· (intro w' hR ; (first | have hcells := later_cellsD ((later_moves).trans _ _ _ hacc hR) | skip) ; go_simp ; try with_reducible rfl)) ; simp only [Act.put, List.setIfInBounds_toArray, List.set_cons_zero, List.set_cons_succ]))
  refine wpO_done ?_
  replace k6 := k6.drew.below hacc k6.lt
  replace kl := kl.drew.below hacc kl.lt
  replace ka := ka.drew.below hacc ka.lt
  replace kr := kr.drew.below hacc kr.lt
  replace hbl := below_chain hbl.drew hacc
  clear cl ca c6 f6 hT5 hT6 hT7 l6
  have hr3 := HC.out.2.2.2
  have HLN := Lib.hid (show Y3.length = L.queries * T3 + L.queries + L.queries * j by have := (word_at (hr3 w HCw.out)).1; have := HN.out; omega)
  have hlB : w.heap.size + 1 < B := by have := hg5; omega
  have hW0 : B < w7.heap.size := k6.lt
  obtain ⟨W0, hW0'⟩ : ∃ W0, W0 = w7 := ⟨_, rfl⟩
  rw [← hW0'] at kl k6 kr ka hbl hW0 ⊢
  clear hW0' hacc
  go_wp2_with fail
  go_loopw [1, 9] (fun XX i wr => ∃ (k : Nat) (v : Value) (cs : List Value), k ≤ L.queries ∧ i = .int .i64 (k : Int) ∧ OfCut C T3 k Y3 XX ∧ OfRows C T3 k Y3 cs ∧ wr.ownsRow W0.heap.size 28 1 v k cs ∧ Blk wr B 35 #[.int .u64 (rt : Int), .slice Ac L.k ccc, .slice A1 X c1, .slice A2 Y c2, v, .slice none 0 0, .slice none 0 0] ∧ W0.grownBy wr (some B)) (fun _ i _ => L.queries - (intOf i).toNat)
  case atStart => exact ⟨0, .slice none 0 0, [], Nat.zero_le _, rfl, ⟨_, _, _, rfl, by rw [Nat.zero_mul, List.drop_zero]; exact hr3⟩, ⟨rfl, fun i h => absurd h (by simp)⟩, ⟨rfl, .inl ⟨rfl, rfl⟩⟩, k6, grown_refl' _ _⟩
  case round =>
    obtain ⟨k, v, cs, hk, rfl, hcut, hrows, hown, k6', hBw⟩ := hrel
    have kl' := kl.grown hBw (fun e => by have := Option.some.inj e; omega)
    have cl := kl'.cell
    have l6 : B < wr.heap.size := k6'.lt
    have llw : w.heap.size < wr.heap.size := by omega
    obtain ⟨A', n', c', rfl, hx⟩ := hcut
    obtain ⟨he', hnc', -⟩ := word_at (hx w HCw.out)
    rw [List.length_drop] at he'
    have hq0 := HQ.out
    by_cases hlt : k < L.queries
    · have hmul : (k + 1) * T3 ≤ L.queries * T3 := Nat.mul_le_mul_right _ hlt
      rw [Nat.succ_mul] at hmul
      have hge : T3 ≤ n' := by have := HLN.out; omega
      have hge2 : T3 ≤ (Y3.drop (k * T3)).length := by rw [List.length_drop]; omega
      have hh := head_get hx T3 hge2
      obtain ⟨A2', n2', c2', hcut2, hn2, -⟩ := from_get hx HCw.out T3 hge2
      have s := hcut2.eq
      simp [sliced] at s
      have v1 : (T3 : Int) ≤ (c' : Int) := by omega
      have v2 : (T3 : Int) ≤ (n' : Int) := by omega
      have g2 : (k : Int) < (L.queries : Int) := by omega
      have HR2 := Lib.hid (And.intro hh hcut2.rd)
      have HRW := Lib.hid hrows
      have hq1 : L.queries ≤ 64 := hq0.2
      clear hmul hge hge2 hh hcut2 hn2 hrows he' hnc' hx hq0
      go_wp2_with fail
      refine wpO_begin (From B) [5, 6, 11] [0, 2, 3, 4, 7, 8, 9, 1, 5, 6, 10, 11, 12] (by kernel_rfl) (by kernel_rfl) ?_
      refine wpO_startK (from_moves B) ?_
      intro Wc HWc hacc
      replace hown := own_hid HWc hown
      replace hBw := grown_hid HWc hBw
      replace k6' := blk_hid HWc k6'
      replace l6 : B < Wc.heap.size := k6'.lt
      replace llw : w.heap.size < Wc.heap.size := by omega
      clear HWc cl kl'
      have c6 := k6'.cell
      repeat (first | (refine wpO_skip (from_moves B) rfl rfl (fun _ _ _ h => h) ?_ ; simp only [Act.put, List.setIfInBounds_toArray, List.set_cons_zero, List.set_cons_succ]) | (refine wpO_light (v := ?_) (from_moves B) rfl rfl (fun _ _ _ h => h) ?_ ?_ ; rotate_left ; (· (intro w' hR ; (first | have hcells := from_cellsD ((from_moves B).trans _ _ _ hacc hR) | skip) ; go_simp ; try with_reducible rfl)) ; simp only [Act.put, List.setIfInBounds_toArray, List.set_cons_zero, List.set_cons_succ]))
      refine wpO_pair (v := v) (u := .slice (some ⟨Wc.heap.size, 0, none⟩) 1 1) (w1 := Wc.alloc (.cells #[.slice A' T3 c'] 28)) (from_moves B) (.inl (by kernel_rfl)) (by kernel_rfl) (by kernel_rfl) (by decide) rfl rfl rfl rfl ?_ ?_ ?_ ?_ ?_ ?_ ?_
      · go_simp
      · go_simp
      · go_simp
      · go_simp
      · exact from_later ((Below.refl _ _).alloc (Nat.le_refl _) _) (by omega)
      · rfl
      have hal := (Below.refl Wc.heap.size Wc).alloc (Nat.le_refl _) (.cells #[.slice A' T3 c'] 28)
      have hrd := rd_one Wc (.slice A' T3 c') 28
      replace hown := own_below hown hal (Nat.le_refl _)
      have hsz := hBw.size
      replace hBw := grown_below hBw hal hsz
      replace k6' := k6'.below hal l6
      clear c6
      have hls := hBw.size
      try simp only [Act.put, List.setIfInBounds_toArray, List.set_cons_zero, List.set_cons_succ]
      generalize Wc.alloc _ = We at hrd hown hBw hls k6' ⊢
      generalize Wc.heap.size = ge at *
      have hacc := (from_moves B).refl We
      refine wpO_heavy (from_moves B) rfl rfl rfl ?_
      refine wp_append_rd _ _ rfl el_lists rfl hown rfl hrd (one_slice _ _ _) (by omega) hls ?_
      intro v' wn hown' hgrow hblk
      obtain ⟨Av, cv, hv', -⟩ := own_form hown'
      subst hv'
      have hvb : ∀ g, v.ownBlock = some g → B < g := fun g e => by have := (hown.lt g e).1; omega
      refine ⟨below_of_grown hgrow B (by have := k6'.lt; omega) (fun g e => by have := hvb g e; omega), ?_⟩
      have hgr : W0.grownBy wn (some B) := grown_step hBw hgrow (fun g e => .inr (by have := (hown.lt g e).1; omega))
      have k6n := k6'.grown hgrow (fun e => by have := hvb B e.symm; omega)
      clear hown hgrow hblk k6' hBw hrd hvb hal hls hsz hacc
      have c6 := k6n.cell
      have f6 := k6n.frozen
      have hacc := (from_moves B).refl wn
      try simp only [Act.put, List.setIfInBounds_toArray, List.set_cons_zero, List.set_cons_succ]
      repeat (first | (refine wpO_skip (from_moves B) rfl rfl (fun _ _ _ h => h) ?_ ; simp only [Act.put, List.setIfInBounds_toArray, List.set_cons_zero, List.set_cons_succ]) | (refine wpO_light (v := ?_) (from_moves B) rfl rfl (fun _ _ _ h => h) ?_ ?_ ; rotate_left ; (· (intro w' hR ; (first | have hcells := from_cellsD ((from_moves B).trans _ _ _ hacc hR) | skip) ; go_simp ; try with_reducible rfl)) ; simp only [Act.put, List.setIfInBounds_toArray, List.set_cons_zero, List.set_cons_succ]))
      refine wpO_heavy (from_moves B) rfl rfl rfl ?_
      go_simp
      refine ⟨from_set _ _ hBg, ?_⟩
      have hsg : wn.grownBy (wn.setCell ⟨B, 4, none⟩ (.slice Av (k + 1) cv)) (some B) := grown_setCell' (grown_refl' wn _) (.inl rfl) _
      replace k6n := k6n.set_ 4 (.slice Av (k + 1) cv)
      simp at k6n
      replace hown' := own_grownby hown' hsg (by omega)
      replace hgr := grown_step hgr hsg fun _ e => .inl e
      clear c6 f6 hacc hsg
      generalize wn.setCell _ _ = Wz at k6n hown' hgr ⊢
      have hacc := (from_moves B).refl Wz
      repeat (first | (refine wpO_skip (from_moves B) rfl rfl (fun _ _ _ h => h) ?_ ; simp only [Act.put, List.setIfInBounds_toArray, List.set_cons_zero, List.set_cons_succ]) | (refine wpO_light (v := ?_) (from_moves B) rfl rfl (fun _ _ _ h => h) ?_ ?_ ; rotate_left ; (· (intro w' hR ; (first | have hcells := from_cellsD ((from_moves B).trans _ _ _ hacc hR) | skip) ; go_simp ; try with_reducible rfl)) ; simp only [Act.put, List.setIfInBounds_toArray, List.set_cons_zero, List.set_cons_succ]))
      refine wpO_done ?_
      go_wp2
      go_roundw
      case rel => exact ⟨k + 1, .slice Av (k + 1) cv, _, by omega, by go_num, ofCut_next HR2.out.2, ofRows_next HRW.out HR2.out.1, hown', k6n, hgr⟩
      case measure => simp [intOf]; omega
    · obtain rfl : k = L.queries := by omega
      obtain ⟨A4, c4, hv4, -⟩ := own_form hown
      subst hv4
      have hl4 : (Y3.drop (L.queries * T3)).length = L.queries + L.queries * j := by rw [List.length_drop]; have := HLN.out; omega
      have HRW := Lib.hid hrows
      have hd45 : L.queries ≤ n' := by have := HLN.out; omega
      have H4c := Lib.hid (show Y3.drop (L.queries * T3) = Y3.drop (L.queries * T3) from rfl)
      revert hx hl4 HO
      generalize Y3.drop (L.queries * T3) = Y4
      intro HO hx hl4
      have hsalt := head_get hx L.queries (by omega)
      obtain ⟨A5, n5, c5, hcut5, e5, l5⟩ := from_get hx HCw.out L.queries (by omega)
      have s5 := hcut5.eq
      simp [sliced] at s5
      have v1 : (L.queries : Int) ≤ (c' : Int) := by omega
      have v2 : (L.queries : Int) ≤ (n' : Int) := by omega
      have hr3 := hcut5.rd
      have HLN5 := Lib.hid (show (Y4.drop L.queries).length = L.queries * j by rw [List.length_drop]; omega)
      generalize Y4.drop L.queries = Y5 at HO HLN5 hr3
      have HC5 := Lib.hid (And.intro hsalt hr3)
      have kr' := kr.grown hBw (fun e => by have := Option.some.inj e; omega)
      have g2 : ((L.queries : Nat) : Int) ≤ (L.queries : Int) := by omega
      have hb6 := hbl.trans (below_of_grown hBw w.heap.size (by omega) (fun g e => by have := Option.some.inj e; omega))
      have HB6 := Lib.hid hb6
      have hq1 : L.queries ≤ 64 := hq0.2
      clear hcut5 hsalt he' hnc' hx hq0 hrows hl4 hd45 e5 l5 H4c hr3 hb6
      go_wp2_with fail
      refine wpO_begin (From B) [9] [0, 1, 2, 3, 4, 5, 6, 7, 8, 9, 10] (by kernel_rfl) (by kernel_rfl) ?_
      refine wpO_startK (from_moves B) ?_
      intro Wc HWc hacc
      replace hown := own_hid HWc hown
      replace hBw := grown_hid HWc hBw
      replace k6' := blk_hid HWc k6'
      replace kl' := blk_hid HWc kl'
      replace kr' := blk_hid HWc kr'
      have hb7 := below_hid HWc HB6.out
      clear HB6
      have HB6 := Lib.hid hb7
      clear HWc l6 llw hb7
      have c6 := k6'.cell
      have f6 := k6'.frozen
      repeat (first | (refine wpO_skip (from_moves B) rfl rfl (fun _ _ _ h => h) ?_ ; simp only [Act.put, List.setIfInBounds_toArray, List.set_cons_zero, List.set_cons_succ]) | (refine wpO_light (v := ?_) (from_moves B) rfl rfl (fun _ _ _ h => h) ?_ ?_ ; rotate_left ; (· (intro w' hR ; (first | have hcells := from_cellsD ((from_moves B).trans _ _ _ hacc hR) | skip) ; go_simp ; try with_reducible rfl)) ; simp only [Act.put, List.setIfInBounds_toArray, List.set_cons_zero, List.set_cons_succ]))
      refine wpO_heavy (from_moves B) rfl rfl rfl ?_
      go_simp
      refine ⟨from_set _ _ hBg, ?_⟩
      have hsg : Wc.grownBy (Wc.setCell ⟨B, 5, none⟩ (.slice A' L.queries c')) (some B) := grown_setCell' (grown_refl' Wc _) (.inl rfl) _
      replace k6' := k6'.set_ 5 (.slice A' L.queries c')
      simp at k6'
      replace hown := own_grownby hown hsg (by omega)
      replace kl' := kl'.grown hsg (fun e => by have := Option.some.inj e; omega)
      replace kr' := kr'.grown hsg (fun e => by have := Option.some.inj e; omega)
      have hb8 := HB6.out.trans (below_of_grown hsg w.heap.size (by have := kl'.lt; have := HB6.out.size; omega) (fun g e => by have := Option.some.inj e; omega))
      clear cl c6 f6 hacc hsg HB6 kl kr k6 hBw hbl ka
      generalize Wc.setCell _ _ = W5 at k6' hown kl' kr' hb8 ⊢
      have kl := kl'
      have kr := kr'
      have k6 := k6'
      have hbl := hb8
      have hown4 := hown
      clear kl' kr' k6' hb8 hown
      have hacc := (from_moves B).refl W5
      repeat (first | (refine wpO_skip (from_moves B) rfl rfl (fun _ _ _ h => h) ?_ ; simp only [Act.put, List.setIfInBounds_toArray, List.set_cons_zero, List.set_cons_succ]) | (refine wpO_light (v := ?_) (from_moves B) rfl rfl (fun _ _ _ h => h) ?_ ?_ ; rotate_left ; (· (intro w' hR ; (first | have hcells := from_cellsD ((from_moves B).trans _ _ _ hacc hR) | skip) ; go_simp ; try with_reducible rfl)) ; simp only [Act.put, List.setIfInBounds_toArray, List.set_cons_zero, List.set_cons_succ]))
      refine wpO_done ?_
      have hr3 := HC5.out.2
      have hW5 : B < W5.heap.size := k6.lt
      have HRW4 := Lib.hid HRW.out
      clear HRW hacc
      go_wp2_with fail
      go_loopw [1, 10] (fun XX i wr => ∃ (k : Nat) (v : Value) (cs : List Value), k ≤ L.queries ∧ i = .int .i64 (k : Int) ∧ OfCut C j k Y5 XX ∧ OfRows C j k Y5 cs ∧ wr.ownsRow W5.heap.size 28 1 v k cs ∧ Blk wr B 35 #[.int .u64 (rt : Int), .slice Ac L.k ccc, .slice A1 X c1, .slice A2 Y c2, .slice A4 L.queries c4, .slice A' L.queries c', v] ∧ W5.grownBy wr (some B)) (fun _ i _ => L.queries - (intOf i).toNat)
      case atStart => exact ⟨0, .slice none 0 0, [], Nat.zero_le _, rfl, ⟨_, _, _, rfl, by rw [Nat.zero_mul, List.drop_zero]; exact hr3⟩, ⟨rfl, fun i h => absurd h (by simp)⟩, ⟨rfl, .inl ⟨rfl, rfl⟩⟩, k6, grown_refl' _ _⟩
      case round =>
        obtain ⟨k, v, cs, hk, rfl, hcut, hrows, hown, k6', hBw⟩ := hrel
        have kl' := kl.grown hBw (fun e => by have := Option.some.inj e; omega)
        have cl := kl'.cell
        have l6 : B < wr.heap.size := k6'.lt
        have llw : w.heap.size < wr.heap.size := by omega
        obtain ⟨Aq, nq, cq, rfl, hx⟩ := hcut
        obtain ⟨he', hnc', -⟩ := word_at (hx w HCw.out)
        rw [List.length_drop] at he'
        have hq0 := HQ.out
        by_cases hlt : k < L.queries
        · have hmul : (k + 1) * j ≤ L.queries * j := Nat.mul_le_mul_right _ hlt
          rw [Nat.succ_mul] at hmul
          have hge : j ≤ nq := by have := HLN5.out; omega
          have hge2 : j ≤ (Y5.drop (k * j)).length := by rw [List.length_drop]; omega
          have hh := head_get hx j hge2
          obtain ⟨A2', n2', c2', hcut2, hn2, -⟩ := from_get hx HCw.out j hge2
          have s := hcut2.eq
          simp [sliced] at s
          have v1 : (j : Int) ≤ (cq : Int) := by omega
          have v2 : (j : Int) ≤ (nq : Int) := by omega
          have g2 : (k : Int) < (L.queries : Int) := by omega
          have HR2 := Lib.hid (And.intro hh hcut2.rd)
          have HRW := Lib.hid hrows
          have hq1 : L.queries ≤ 64 := hq0.2
          clear hmul hge hge2 hh hcut2 hn2 hrows he' hnc' hx hq0
          go_wp2_with fail
          refine wpO_begin (From B) [5, 6, 11] [0, 2, 3, 4, 7, 8, 9, 1, 5, 6, 10, 11, 12] (by kernel_rfl) (by kernel_rfl) ?_
          refine wpO_startK (from_moves B) ?_
          intro Wc HWc hacc
          replace hown := own_hid HWc hown
          replace hBw := grown_hid HWc hBw
          replace k6' := blk_hid HWc k6'
          replace l6 : B < Wc.heap.size := k6'.lt
          replace llw : w.heap.size < Wc.heap.size := by omega
          clear HWc cl kl'
          have c6 := k6'.cell
          repeat (first | (refine wpO_skip (from_moves B) rfl rfl (fun _ _ _ h => h) ?_ ; simp only [Act.put, List.setIfInBounds_toArray, List.set_cons_zero, List.set_cons_succ]) | (refine wpO_light (v := ?_) (from_moves B) rfl rfl (fun _ _ _ h => h) ?_ ?_ ; rotate_left ; (· (intro w' hR ; (first | have hcells := from_cellsD ((from_moves B).trans _ _ _ hacc hR) | skip) ; go_simp ; try with_reducible rfl)) ; simp only [Act.put, List.setIfInBounds_toArray, List.set_cons_zero, List.set_cons_succ]))
          refine wpO_pair (v := v) (u := .slice (some ⟨Wc.heap.size, 0, none⟩) 1 1) (w1 := Wc.alloc (.cells #[.slice Aq j cq] 28)) (from_moves B) (.inl (by kernel_rfl)) (by kernel_rfl) (by kernel_rfl) (by decide) rfl rfl rfl rfl ?_ ?_ ?_ ?_ ?_ ?_ ?_
          · go_simp
          · go_simp
          · go_simp
          · go_simp
          · exact from_later ((Below.refl _ _).alloc (Nat.le_refl _) _) (by omega)
          · rfl
          have hal := (Below.refl Wc.heap.size Wc).alloc (Nat.le_refl _) (.cells #[.slice Aq j cq] 28)
          have hrd := rd_one Wc (.slice Aq j cq) 28
          replace hown := own_below hown hal (Nat.le_refl _)
          have hsz := hBw.size
          replace hBw := grown_below hBw hal hsz
          replace k6' := k6'.below hal l6
          clear c6
          have hls := hBw.size
          try simp only [Act.put, List.setIfInBounds_toArray, List.set_cons_zero, List.set_cons_succ]
          generalize Wc.alloc _ = We at hrd hown hBw hls k6' ⊢
          generalize Wc.heap.size = ge at *
          have hacc := (from_moves B).refl We
          refine wpO_heavy (from_moves B) rfl rfl rfl ?_
          refine wp_append_rd _ _ rfl el_lists rfl hown rfl hrd (one_slice _ _ _) (by omega) hls ?_
          intro v' wn hown' hgrow hblk
          obtain ⟨Av, cv, hv', -⟩ := own_form hown'
          subst hv'
          have hvb : ∀ g, v.ownBlock = some g → B < g := fun g e => by have := (hown.lt g e).1; omega
          refine ⟨below_of_grown hgrow B (by have := k6'.lt; omega) (fun g e => by have := hvb g e; omega), ?_⟩
          have hgr : W5.grownBy wn (some B) := grown_step hBw hgrow (fun g e => .inr (by have := (hown.lt g e).1; omega))
          have k6n := k6'.grown hgrow (fun e => by have := hvb B e.symm; omega)
          clear hown hgrow hblk k6' hBw hrd hvb hal hls hsz hacc
          have c6 := k6n.cell
          have f6 := k6n.frozen
          have hacc := (from_moves B).refl wn
          try simp only [Act.put, List.setIfInBounds_toArray, List.set_cons_zero, List.set_cons_succ]
          repeat (first | (refine wpO_skip (from_moves B) rfl rfl (fun _ _ _ h => h) ?_ ; simp only [Act.put, List.setIfInBounds_toArray, List.set_cons_zero, List.set_cons_succ]) | (refine wpO_light (v := ?_) (from_moves B) rfl rfl (fun _ _ _ h => h) ?_ ?_ ; rotate_left ; (· (intro w' hR ; (first | have hcells := from_cellsD ((from_moves B).trans _ _ _ hacc hR) | skip) ; go_simp ; try with_reducible rfl)) ; simp only [Act.put, List.setIfInBounds_toArray, List.set_cons_zero, List.set_cons_succ]))
          refine wpO_heavy (from_moves B) rfl rfl rfl ?_
          go_simp
          refine ⟨from_set _ _ hBg, ?_⟩
          have hsg : wn.grownBy (wn.setCell ⟨B, 6, none⟩ (.slice Av (k + 1) cv)) (some B) := grown_setCell' (grown_refl' wn _) (.inl rfl) _
          replace k6n := k6n.set_ 6 (.slice Av (k + 1) cv)
          simp at k6n
          replace hown' := own_grownby hown' hsg (by omega)
          replace hgr := grown_step hgr hsg fun _ e => .inl e
          clear c6 f6 hacc hsg
          generalize wn.setCell _ _ = Wz at k6n hown' hgr ⊢
          have hacc := (from_moves B).refl Wz
          repeat (first | (refine wpO_skip (from_moves B) rfl rfl (fun _ _ _ h => h) ?_ ; simp only [Act.put, List.setIfInBounds_toArray, List.set_cons_zero, List.set_cons_succ]) | (refine wpO_light (v := ?_) (from_moves B) rfl rfl (fun _ _ _ h => h) ?_ ?_ ; rotate_left ; (· (intro w' hR ; (first | have hcells := from_cellsD ((from_moves B).trans _ _ _ hacc hR) | skip) ; go_simp ; try with_reducible rfl)) ; simp only [Act.put, List.setIfInBounds_toArray, List.set_cons_zero, List.set_cons_succ]))
          refine wpO_done ?_
          go_wp2
          go_roundw
          case rel => exact ⟨k + 1, .slice Av (k + 1) cv, _, by omega, by go_num, ofCut_next HR2.out.2, ofRows_next HRW.out HR2.out.1, hown', k6n, hgr⟩
          case measure => simp [intOf]; omega
        · obtain rfl : k = L.queries := by omega
          obtain ⟨A6, c6', hv6, -⟩ := own_form hown
          subst hv6
          have kr' := kr.grown hBw (fun e => by have := Option.some.inj e; omega)
          have HRW6 := Lib.hid hrows
          have hbz := hbl.trans (below_of_grown hBw w.heap.size (by omega) (fun g e => by have := Option.some.inj e; omega))
          have hown4' := own_grownby hown4 hBw (by omega)
          clear he' hnc' hx hq0 hrows hbl hown4 hBw kl kr k6 kl'
          have c6 := k6'.cell
          have cr := kr'.cell
          have fr := kr'.frozen
          have g2 : ((L.queries : Nat) : Int) ≤ (L.queries : Int) := by omega
          go_wp2_with fail
          have hg7 := set7_grown (w := wr) (g := w.heap.size + 1) (.int .u64 (rt : Int)) (.slice Ac L.k ccc) (.slice A1 X c1) (.slice A2 Y c2) (.slice A4 L.queries c4) (.slice A' L.queries c') (.slice A6 L.queries c6')
          have kz := set7_blk kr' (.int .u64 (rt : Int)) (.slice Ac L.k ccc) (.slice A1 X c1) (.slice A2 Y c2) (.slice A4 L.queries c4) (.slice A' L.queries c') (.slice A6 L.queries c6')
          clear c6 cr fr kr' k6'
          generalize ((((((World.setCell wr _ _).setCell _ _).setCell _ _).setCell _ _).setCell _ _).setCell _ _).setCell _ _ = Wf at hg7 kz ⊢
          have cz := kz.cell
          have hbf := hbz.trans (below_of_grown hg7 w.heap.size (by omega) (fun g e => by have := Option.some.inj e; omega))
          refine bodyPost_ret (v := .agg #[.int .u64 (rt : Int), .slice Ac L.k ccc, .slice A1 X c1, .slice A2 Y c2, .slice A4 L.queries c4, .slice A' L.queries c', .slice A6 L.queries c6']) (by simp [results, Try.results32, go_sem, cz]) rfl ?_
          refine ⟨⟨Ac, L.k, ccc, A1, X, c1, A2, Y, c2, A4, L.queries, c4, A', L.queries, c', A6, L.queries, c6'⟩, by rw [HO.out]; rfl, ?_, hbf⟩
          rw [HO.out]
          have ho4 := own_grownby hown4' hg7 (by omega)
          have ho6 := own_grownby hown hg7 (by omega)
          exact fun u hu ha => ⟨HRT.out, HC.out.1 u hu, HC.out.2.1 u hu, HC.out.2.2.1 u hu, rsl_of_own (own_agree ho4 fun b h1 h2 => ha b (by omega) h2) HRW4.out hu, HC5.out.1 u hu, rsl_of_own (own_agree ho6 fun b h1 h2 => ha b (by omega) h2) HRW6.out hu⟩

end Go.Proofs.Ytkaecidnkkcbaaa

