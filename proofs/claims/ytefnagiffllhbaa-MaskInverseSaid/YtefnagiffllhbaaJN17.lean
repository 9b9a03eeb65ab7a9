/-
  mask.elements (slices.ContainsFunc, slices.IndexFunc, the closure); ref25.numbers.
-/
import Derived.Test.YtefnagiffllhbaaJN14
import Derived.Test.YtefnagiffllhbaaJN6
import Derived.Test.YtefnagiffllhbaaJN5
import Derived.Test.YtefnagiffllhbaaJN3

/- MFs -/
namespace Go.Proofs.Ytefnagiffllhbaa
open Go.RowKit

theorem drawA_vec (x : Nat) (r : List Nat) (m : Nat) : fillC m (drawAt x r) = (U64 (vecP bigQ x r m)).toArray := by
  rw [fill_U64]
  unfold vecP
  congr 2
  exact List.map_congr_left fun k _ => (Nat.mod_eq_of_lt (sqAt_lt bigQ 22 _ k (by decide))).symm
theorem made_rows (n : Nat) : madeCells (Value.slice none 0 0).cells (n * 1) = Array.replicate n (.slice none 0 0) := by
  apply Array.toList_inj.1
  rw [show (Value.slice none 0 0).cells = #[.slice none 0 0] from rfl, toList_madeCells_one]
  simp
theorem drawP_vec (p x : Nat) (r : List Nat) (m : Nat) : fillC m (drawP p x r) = (U64 (vecP p x r m)).toArray := fill_U64 _ _

set_option maxRecDepth 100000 in
set_option maxHeartbeats 2000000 in
theorem mFromSeed_any (L : LayR) (s : Nat) (w : World) (hL : LayOk L) (hs : s < 18446744073709551616) :
    Calls Try.prog 8 #[.agg (layCs L), .int .u64 s] w fun e w' => ∃ v0 v1 v2 v3 v4, e = .returned (.agg #[v0, v1, v2, v3, v4]) ∧ RRows w' [v0] (rowsP L s (L.a + L.b + L.b + L.b)) ∧ RWd w' [v1] (vecP L.p s [1] L.k) ∧ RWd w' [v2] (vecP L.p s [2] (L.k + L.block - 2)) ∧ RWd w' [v3] (vecP L.p s [3] (L.block + 2 * L.queries - 1)) ∧ RWd w' [v4] (vecP bigQ s [4] L.n) ∧ Below w.heap.size w w' := by
  have hpp := okP_lt hL.p
  have HT := Lib.hid (fun w => pTotal_any L.p L.block L.queries L.k L.n L.secret L.rows L.a L.b L.b L.b w hL.a hL.b hL.b hL.b)
  have HC := Lib.hid (fun w => codeSize_any L w hL)
  have hT4 : L.a + L.b + L.b + L.b ≤ 400000 := by have := hL.a; have := hL.b; omega
  have hq2 := hL.q2
  have q1 := hL.b1
  have q2 := hL.b2
  have q3 := hL.q1
  have q5 := hL.k
  have q6 := hL.n2
  have u1 : L.k ≤ 65536 := by omega
  have u2 : L.k + L.block - 2 ≤ 65536 := by omega
  have u3 : L.block + 2 * L.queries - 1 ≤ 65536 := by omega
  have u4 : L.n ≤ 65536 := by omega
  have HS := Lib.hid (fun r m g w kg hx hr hm => mSqueeze_any L s r m g w hL.p kg hx hr hm)
  have HD := Lib.hid (fun r m g w kg hx hr hm => pDraws_any s r m g w kg hx hr hm)
  generalize L.a + L.b + L.b + L.b = T at *
  generalize L.k + L.block - 2 = m2 at *
  generalize L.block + 2 * L.queries - 1 = m3 at *
  clear q1 q2 q3 q5 q6
  unfold layCs at *
  go_enter Try.func8, Try.ntmps8
  go_upto_region 1 with fail
  obtain ⟨kl, kz, hb0, hsz⟩ := boxes2 w 41 39 #[.int .u64 (L.p : Int), .int .i64 (L.block : Int), .int .i64 (L.queries : Int), .int .i64 (L.k : Int), .int .i64 (L.n : Int), .int .i64 (L.secret : Int), .int .i64 (L.rows : Int), .int .i64 (L.a : Int), .int .i64 (L.b : Int), .int .i64 (L.b : Int), .int .i64 (L.b : Int)] #[.slice none 0 0, .slice none 0 0, .slice none 0 0, .slice none 0 0, .slice none 0 0]
  generalize (w.alloc _).alloc _ = w2 at kl kz hb0 hsz ⊢
  have cl := kl.cell
  go_wp2_with fail
  refine (HC.out _).mono ?_
  rintro e w3 ⟨rfl, hb3⟩
  replace kl := kl.below hb3 kl.lt
  replace kz := kz.below hb3 kz.lt
  have hsz3 : w.heap.size + 1 < w3.heap.size := by have := hb3.size; omega
  replace hb0 := below_chain hb0 hb3
  clear cl hb3 HC hsz
  go_upto_region 2 with fail
  have cl := kl.cell
  have kn := Blk.new w3 76 #[.int .i64 (L.k : Int), .int .i64 (m2 : Int), .int .i64 (m3 : Int)]
  have hal := (Below.refl w3.heap.size w3).alloc (Nat.le_refl _) (.cells #[.int .i64 (L.k : Int), .int .i64 (m2 : Int), .int .i64 (m3 : Int)] 76)
  replace kl := kl.below hal kl.lt
  replace kz := kz.below hal kz.lt
  replace hb0 := below_chain hb0 hal
  have hsz4 : w.heap.size + 1 < w3.heap.size ∧ w3.heap.size + 1 = (w3.alloc (.cells #[.int .i64 (L.k : Int), .int .i64 (m2 : Int), .int .i64 (m3 : Int)] 76)).heap.size := ⟨hsz3, by simp⟩
  clear hal cl hsz3
  generalize w3.alloc _ = w4 at kl kz kn hb0 hsz4 ⊢
  generalize w3.heap.size = gn at kn hsz4 ⊢
  obtain ⟨hs1, hs2⟩ := hsz4
  have cl := kl.cell
  have cn := kn.cell
  have l1 : w.heap.size < w4.heap.size := by omega
  have l2 : gn < w4.heap.size := by omega
  refine wpL_begin (From w4.heap.size) [0, 4, 5, 6, 7, 10, 11, 12, 13, 16, 17, 18, 19, 22, 23, 24] 14 (by kernel_rfl) (by kernel_rfl) ?_
  refine wpL_startK (from_moves w4.heap.size) ?_
  intro Wc HWc hacc
  repeat (first | (refine wpL_skip (from_moves w4.heap.size) rfl rfl (fun _ _ _ h => h) ?_ ; simp only [Act.put, List.setIfInBounds_toArray, List.set_cons_zero, List.set_cons_succ]) | (refine wpL_light (v := ?_) (from_moves w4.heap.size) rfl rfl (fun _ _ _ h => h) ?_ ?_ ; rotate_left ; (· (intro w' hR ; (first | have hcells := from_cellsD ((from_moves w4.heap.size).trans _ _ _ hacc hR) | skip) ; go_simp ; try with_reducible rfl)) ; simp only [Act.put, List.setIfInBounds_toArray, List.set_cons_zero, List.set_cons_succ]))
  have hbW : Below w4.heap.size w4 Wc := by rw [HWc.out]; exact (Below.refl _ _).drew
  have hNc : w4.heap.size ≤ Wc.heap.size := hbW.size
  refine wpL_own (from_moves w4.heap.size) [⟨1, [], []⟩, ⟨2, [1], []⟩, ⟨3, [2], []⟩, ⟨8, [], []⟩, ⟨9, [8], [8]⟩, ⟨14, [], []⟩, ⟨15, [14], [14]⟩, ⟨20, [], []⟩, ⟨21, [20], [20]⟩, ⟨25, [], []⟩, ⟨26, [25], [25]⟩, ⟨27, [3, 9, 15, 21, 26], []⟩, ⟨28, [], []⟩] [(1, ValAt (fun _ => .int .i64 (T : Int)) 1), (2, ValAt (fun _ => .int .i64 (T : Int)) 2), (3, BlkAt 28 (fun _ => Array.replicate T (.slice none 0 0)) (mkS T) 3), (8, BlkAt 22 (fun _ => #[.int .u64 (s : Int), .int .u64 1]) (mkS 2) 8), (9, BlkAt 22 (fun _ => (U64 (vecP L.p s [1] L.k)).toArray) (mkS L.k) 9), (14, BlkAt 22 (fun _ => #[.int .u64 (s : Int), .int .u64 2]) (mkS 2) 14), (15, BlkAt 22 (fun _ => (U64 (vecP L.p s [2] m2)).toArray) (mkS m2) 15), (20, BlkAt 22 (fun _ => #[.int .u64 (s : Int), .int .u64 3]) (mkS 2) 20), (21, BlkAt 22 (fun _ => (U64 (vecP L.p s [3] m3)).toArray) (mkS m3) 21), (25, BlkAt 22 (fun _ => #[.int .u64 (s : Int), .int .u64 4]) (mkS 2) 25), (26, BlkAt 22 (fun _ => (U64 (vecP bigQ s [4] L.n)).toArray) (mkS L.n) 26), (27, ValAt (fun vs => .agg #[vs 3, vs 9, vs 15, vs 21, vs 26]) 27), (28, BlkAt 39 (fun _ => #[.slice none 0 0, .slice none 0 0, .slice none 0 0, .slice none 0 0, .slice none 0 0]) mkP 28)] [(some 11, 1), (some 12, 2), (some 13, 3), (some 18, 8), (some 19, 9), (some 24, 14), (some 25, 15), (some 30, 20), (some 31, 21), (some 35, 25), (some 36, 26), (some 37, 27), (some 6, 28)] [29] [29] (by kernel_rfl) (by kernel_rfl) (by first | exact Nat.le_refl _ | omega) (fun w1 h1 => h1) ?_ ?_ ?_
  · exact List.forall_mem_cons.2 ⟨stays_val rfl (fun _ _ _ => rfl), List.forall_mem_cons.2 ⟨stays_val rfl (fun _ _ _ => rfl), List.forall_mem_cons.2 ⟨stays_blk rfl (fun _ _ _ => rfl), List.forall_mem_cons.2 ⟨stays_blk rfl (fun _ _ _ => rfl), List.forall_mem_cons.2 ⟨stays_blk rfl (fun _ _ _ => rfl), List.forall_mem_cons.2 ⟨stays_blk rfl (fun _ _ _ => rfl), List.forall_mem_cons.2 ⟨stays_blk rfl (fun _ _ _ => rfl), List.forall_mem_cons.2 ⟨stays_blk rfl (fun _ _ _ => rfl), List.forall_mem_cons.2 ⟨stays_blk rfl (fun _ _ _ => rfl), List.forall_mem_cons.2 ⟨stays_blk rfl (fun _ _ _ => rfl), List.forall_mem_cons.2 ⟨stays_blk rfl (fun _ _ _ => rfl), List.forall_mem_cons.2 ⟨stays_val rfl (fun vs us h => by simp only [h 3 (by decide), h 9 (by decide), h 15 (by decide), h 21 (by decide), h 26 (by decide)]), List.forall_mem_cons.2 ⟨stays_blk rfl (fun _ _ _ => rfl), List.forall_mem_nil _⟩⟩⟩⟩⟩⟩⟩⟩⟩⟩⟩⟩⟩
  · refine List.forall_mem_cons.2 ⟨?_, List.forall_mem_cons.2 ⟨?_, List.forall_mem_cons.2 ⟨?_, List.forall_mem_cons.2 ⟨?_, List.forall_mem_cons.2 ⟨?_, List.forall_mem_cons.2 ⟨?_, List.forall_mem_cons.2 ⟨?_, List.forall_mem_cons.2 ⟨?_, List.forall_mem_cons.2 ⟨?_, List.forall_mem_cons.2 ⟨?_, List.forall_mem_cons.2 ⟨?_, List.forall_mem_cons.2 ⟨?_, List.forall_mem_cons.2 ⟨?_, List.forall_mem_nil _⟩⟩⟩⟩⟩⟩⟩⟩⟩⟩⟩⟩⟩
    · refine task_mk [] rfl (by kernel_rfl) ?_
      intro w1 vs F hb1 hd hdis
      clear hd
      unfold puts
      simp only [List.foldl]
      change Does _ _ _ fun v w' => Near _ w1 w' F [] ∧ ValAt (fun _ => .int .i64 (T : Int)) 1 (upd vs 1 v) (Grown w1 w' F []) w'
      have hB1 := Nat.le_trans hNc hb1.size
      refine does_call (by go_simp <;> rfl) (HT.out _) ?_
      rintro e w2 ⟨rfl, hb2⟩
      exact ⟨_, rfl, near_below hb2 hB1 _ _, rfl⟩
    · refine task_mk [(some 11, 1)] rfl (by kernel_rfl) ?_
      intro w1 vs F hb1 hd hdis
      have d1 : ValAt (fun _ => .int .i64 (T : Int)) 1 vs (F 1) w1 ∧ ∀ b, F 1 b → b < w1.heap.size ∧ _ ≤ b := hd 1 (by decide)
      clear hd
      unfold puts
      simp only [List.foldl]
      change Does _ _ _ fun v w' => Near _ w1 w' F [] ∧ ValAt (fun _ => .int .i64 (T : Int)) 2 (upd vs 2 v) (Grown w1 w' F []) w'
      have e1 : vs 1 = _ := d1.1
      rw [e1]
      exact does_val (v := .int .i64 (T : Int)) (w' := w1) (by go_simp <;> rfl) ⟨near_same _ _ _ _, rfl⟩
    · refine task_mk [(some 12, 2)] rfl (by kernel_rfl) ?_
      intro w1 vs F hb1 hd hdis
      have d2 : ValAt (fun _ => .int .i64 (T : Int)) 2 vs (F 2) w1 ∧ ∀ b, F 2 b → b < w1.heap.size ∧ _ ≤ b := hd 2 (by decide)
      clear hd
      unfold puts
      simp only [List.foldl]
      change Does _ _ _ fun v w' => Near _ w1 w' F [] ∧ BlkAt 28 (fun _ => Array.replicate T (.slice none 0 0)) (mkS T) 3 (upd vs 3 v) (Grown w1 w' F []) w'
      have hB1 := Nat.le_trans hNc hb1.size
      have e2 : vs 2 = _ := d2.1
      rw [e2]
      exact does_val (v := .slice (some ⟨w1.heap.size, 0, none⟩) T T) (w' := w1.alloc (.cells (Array.replicate T (.slice none 0 0)) 28)) (by rw [← made_rows T]; have := mk_n (P := Try.prog) el_ww T (by omega) (by omega) w1; go_simp <;> rfl) ⟨near_below ((Below.refl _ _).alloc (Nat.le_refl _) _) hB1 _ _, blk_of (Blk.new _ _ _) (Nat.le_refl _)⟩
    · refine task_mk [] rfl (by kernel_rfl) ?_
      intro w1 vs F hb1 hd hdis
      clear hd
      unfold puts
      simp only [List.foldl]
      change Does _ _ _ fun v w' => Near _ w1 w' F [] ∧ BlkAt 22 (fun _ => #[.int .u64 (s : Int), .int .u64 1]) (mkS 2) 8 (upd vs 8 v) (Grown w1 w' F []) w'
      have hB1 := Nat.le_trans hNc hb1.size
      exact does_val (v := .slice (some ⟨w1.heap.size, 0, none⟩) 2 2) (w' := w1.alloc (.cells #[.int .u64 (s : Int), .int .u64 1] 22)) (by go_simp <;> rfl) ⟨near_below ((Below.refl _ _).alloc (Nat.le_refl _) _) hB1 _ _, blk_of (Blk.new _ _ _) (Nat.le_refl _)⟩
    · refine task_mk [(some 18, 8)] rfl (by kernel_rfl) ?_
      intro w1 vs F hb1 hd hdis
      have d8 : BlkAt 22 (fun _ => #[.int .u64 (s : Int), .int .u64 1]) (mkS 2) 8 vs (F 8) w1 ∧ ∀ b, F 8 b → b < w1.heap.size ∧ _ ≤ b := hd 8 (by decide)
      clear hd
      unfold puts
      simp only [List.foldl]
      change Does _ _ _ fun v w' => Near _ w1 w' F [8] ∧ BlkAt 22 (fun _ => (U64 (vecP L.p s [1] L.k)).toArray) (mkS L.k) 9 (upd vs 9 v) (Grown w1 w' F [8]) w'
      have hB1 := Nat.le_trans hNc hb1.size
      obtain ⟨g8, e8, hF8, k8⟩ := d8.1
      rw [e8]
      refine does_call (by go_simp <;> rfl) (HS.out [1] L.k g8 w1 (by simpa [U64] using k8) (by intro y hy; simp at hy; omega) (by simp) u1) ?_
      rintro e w2 ⟨g', rfl, hg', kg', hgr⟩
      exact ⟨_, rfl, near_grown hgr (d8.2 _ hF8).2 hB1 (List.mem_singleton.2 rfl) hF8, blk_of (by rw [← drawP_vec]; exact kg') hg'⟩
    · refine task_mk [] rfl (by kernel_rfl) ?_
      intro w1 vs F hb1 hd hdis
      clear hd
      unfold puts
      simp only [List.foldl]
      change Does _ _ _ fun v w' => Near _ w1 w' F [] ∧ BlkAt 22 (fun _ => #[.int .u64 (s : Int), .int .u64 2]) (mkS 2) 14 (upd vs 14 v) (Grown w1 w' F []) w'
      have hB1 := Nat.le_trans hNc hb1.size
      exact does_val (v := .slice (some ⟨w1.heap.size, 0, none⟩) 2 2) (w' := w1.alloc (.cells #[.int .u64 (s : Int), .int .u64 2] 22)) (by go_simp <;> rfl) ⟨near_below ((Below.refl _ _).alloc (Nat.le_refl _) _) hB1 _ _, blk_of (Blk.new _ _ _) (Nat.le_refl _)⟩
    · refine task_mk [(some 24, 14)] rfl (by kernel_rfl) ?_
      intro w1 vs F hb1 hd hdis
      have d14 : BlkAt 22 (fun _ => #[.int .u64 (s : Int), .int .u64 2]) (mkS 2) 14 vs (F 14) w1 ∧ ∀ b, F 14 b → b < w1.heap.size ∧ _ ≤ b := hd 14 (by decide)
      clear hd
      unfold puts
      simp only [List.foldl]
      change Does _ _ _ fun v w' => Near _ w1 w' F [14] ∧ BlkAt 22 (fun _ => (U64 (vecP L.p s [2] m2)).toArray) (mkS m2) 15 (upd vs 15 v) (Grown w1 w' F [14]) w'
      have hB1 := Nat.le_trans hNc hb1.size
      obtain ⟨g8, e8, hF8, k8⟩ := d14.1
      rw [e8]
      refine does_call (by go_simp <;> rfl) (HS.out [2] m2 g8 w1 (by simpa [U64] using k8) (by intro y hy; simp at hy; omega) (by simp) u2) ?_
      rintro e w2 ⟨g', rfl, hg', kg', hgr⟩
      exact ⟨_, rfl, near_grown hgr (d14.2 _ hF8).2 hB1 (List.mem_singleton.2 rfl) hF8, blk_of (by rw [← drawP_vec]; exact kg') hg'⟩
    · refine task_mk [] rfl (by kernel_rfl) ?_
      intro w1 vs F hb1 hd hdis
      clear hd
      unfold puts
      simp only [List.foldl]
      change Does _ _ _ fun v w' => Near _ w1 w' F [] ∧ BlkAt 22 (fun _ => #[.int .u64 (s : Int), .int .u64 3]) (mkS 2) 20 (upd vs 20 v) (Grown w1 w' F []) w'
      have hB1 := Nat.le_trans hNc hb1.size
      exact does_val (v := .slice (some ⟨w1.heap.size, 0, none⟩) 2 2) (w' := w1.alloc (.cells #[.int .u64 (s : Int), .int .u64 3] 22)) (by go_simp <;> rfl) ⟨near_below ((Below.refl _ _).alloc (Nat.le_refl _) _) hB1 _ _, blk_of (Blk.new _ _ _) (Nat.le_refl _)⟩
    · refine task_mk [(some 30, 20)] rfl (by kernel_rfl) ?_
      intro w1 vs F hb1 hd hdis
      have d20 : BlkAt 22 (fun _ => #[.int .u64 (s : Int), .int .u64 3]) (mkS 2) 20 vs (F 20) w1 ∧ ∀ b, F 20 b → b < w1.heap.size ∧ _ ≤ b := hd 20 (by decide)
      clear hd
      unfold puts
      simp only [List.foldl]
      change Does _ _ _ fun v w' => Near _ w1 w' F [20] ∧ BlkAt 22 (fun _ => (U64 (vecP L.p s [3] m3)).toArray) (mkS m3) 21 (upd vs 21 v) (Grown w1 w' F [20]) w'
      have hB1 := Nat.le_trans hNc hb1.size
      obtain ⟨g8, e8, hF8, k8⟩ := d20.1
      rw [e8]
      refine does_call (by go_simp <;> rfl) (HS.out [3] m3 g8 w1 (by simpa [U64] using k8) (by intro y hy; simp at hy; omega) (by simp) u3) ?_
      rintro e w2 ⟨g', rfl, hg', kg', hgr⟩
      exact ⟨_, rfl, near_grown hgr (d20.2 _ hF8).2 hB1 (List.mem_singleton.2 rfl) hF8, blk_of (by rw [← drawP_vec]; exact kg') hg'⟩
    · refine task_mk [] rfl (by kernel_rfl) ?_
      intro w1 vs F hb1 hd hdis
      clear hd
      unfold puts
      simp only [List.foldl]
      change Does _ _ _ fun v w' => Near _ w1 w' F [] ∧ BlkAt 22 (fun _ => #[.int .u64 (s : Int), .int .u64 4]) (mkS 2) 25 (upd vs 25 v) (Grown w1 w' F []) w'
      have hB1 := Nat.le_trans hNc hb1.size
      exact does_val (v := .slice (some ⟨w1.heap.size, 0, none⟩) 2 2) (w' := w1.alloc (.cells #[.int .u64 (s : Int), .int .u64 4] 22)) (by go_simp <;> rfl) ⟨near_below ((Below.refl _ _).alloc (Nat.le_refl _) _) hB1 _ _, blk_of (Blk.new _ _ _) (Nat.le_refl _)⟩
    · refine task_mk [(some 35, 25)] rfl (by kernel_rfl) ?_
      intro w1 vs F hb1 hd hdis
      have d25 : BlkAt 22 (fun _ => #[.int .u64 (s : Int), .int .u64 4]) (mkS 2) 25 vs (F 25) w1 ∧ ∀ b, F 25 b → b < w1.heap.size ∧ _ ≤ b := hd 25 (by decide)
      clear hd
      unfold puts
      simp only [List.foldl]
      change Does _ _ _ fun v w' => Near _ w1 w' F [25] ∧ BlkAt 22 (fun _ => (U64 (vecP bigQ s [4] L.n)).toArray) (mkS L.n) 26 (upd vs 26 v) (Grown w1 w' F [25]) w'
      have hB1 := Nat.le_trans hNc hb1.size
      obtain ⟨g8, e8, hF8, k8⟩ := d25.1
      rw [e8]
      refine does_call (by go_simp <;> rfl) (HD.out [4] L.n g8 w1 (by simpa [U64] using k8) (by intro y hy; simp at hy; omega) (by simp) u4) ?_
      rintro e w2 ⟨g', rfl, hg', kg', hgr⟩
      exact ⟨_, rfl, near_grown hgr (d25.2 _ hF8).2 hB1 (List.mem_singleton.2 rfl) hF8, blk_of (by rw [← drawA_vec]; exact kg') hg'⟩
    · refine task_mk [(some 13, 3), (some 19, 9), (some 25, 15), (some 31, 21), (some 36, 26)] rfl (by kernel_rfl) ?_
      intro w1 vs F hb1 hd hdis
      have d3 : BlkAt 28 (fun _ => Array.replicate T (.slice none 0 0)) (mkS T) 3 vs (F 3) w1 ∧ ∀ b, F 3 b → b < w1.heap.size ∧ _ ≤ b := hd 3 (by decide)
      have d9 : BlkAt 22 (fun _ => (U64 (vecP L.p s [1] L.k)).toArray) (mkS L.k) 9 vs (F 9) w1 ∧ ∀ b, F 9 b → b < w1.heap.size ∧ _ ≤ b := hd 9 (by decide)
      have d15 : BlkAt 22 (fun _ => (U64 (vecP L.p s [2] m2)).toArray) (mkS m2) 15 vs (F 15) w1 ∧ ∀ b, F 15 b → b < w1.heap.size ∧ _ ≤ b := hd 15 (by decide)
      have d21 : BlkAt 22 (fun _ => (U64 (vecP L.p s [3] m3)).toArray) (mkS m3) 21 vs (F 21) w1 ∧ ∀ b, F 21 b → b < w1.heap.size ∧ _ ≤ b := hd 21 (by decide)
      have d26 : BlkAt 22 (fun _ => (U64 (vecP bigQ s [4] L.n)).toArray) (mkS L.n) 26 vs (F 26) w1 ∧ ∀ b, F 26 b → b < w1.heap.size ∧ _ ≤ b := hd 26 (by decide)
      clear hd
      unfold puts
      simp only [List.foldl]
      change Does _ _ _ fun v w' => Near _ w1 w' F [] ∧ ValAt (fun vs => .agg #[vs 3, vs 9, vs 15, vs 21, vs 26]) 27 (upd vs 27 v) (Grown w1 w' F []) w'
      obtain ⟨g3, e3, -⟩ := d3.1
      obtain ⟨g9, e9, -⟩ := d9.1
      obtain ⟨g15, e15, -⟩ := d15.1
      obtain ⟨g21, e21, -⟩ := d21.1
      obtain ⟨g26, e26, -⟩ := d26.1
      exact does_val (v := .agg #[vs 3, vs 9, vs 15, vs 21, vs 26]) (w' := w1) (by rw [e3, e9, e15, e21, e26]; go_simp <;> rfl) ⟨near_same _ _ _ _, rfl⟩
    · refine task_mk [] rfl (by kernel_rfl) ?_
      intro w1 vs F hb1 hd hdis
      clear hd
      unfold puts
      simp only [List.foldl]
      change Does _ _ _ fun v w' => Near _ w1 w' F [] ∧ BlkAt 39 (fun _ => #[.slice none 0 0, .slice none 0 0, .slice none 0 0, .slice none 0 0, .slice none 0 0]) mkP 28 (upd vs 28 v) (Grown w1 w' F []) w'
      have hB1 := Nat.le_trans hNc hb1.size
      exact does_val (v := .pointer (some ⟨w1.heap.size, 0, none⟩)) (w' := w1.alloc (.cells #[.slice none 0 0, .slice none 0 0, .slice none 0 0, .slice none 0 0, .slice none 0 0] 39)) (by go_simp <;> rfl) ⟨near_below ((Below.refl _ _).alloc (Nat.le_refl _) _) hB1 _ _, blk_of (Blk.new _ _ _) (Nat.le_refl _)⟩
  intro wf vs F hbf hf hdis
  have f1 : ValAt (fun _ => .int .i64 (T : Int)) 1 vs (F 1) wf ∧ ∀ b, F 1 b → b < wf.heap.size ∧ _ ≤ b := hf _ (.head _) (by decide)
  have f2 : ValAt (fun _ => .int .i64 (T : Int)) 2 vs (F 2) wf ∧ ∀ b, F 2 b → b < wf.heap.size ∧ _ ≤ b := hf _ (.tail _ (.head _)) (by decide)
  have f3 : BlkAt 28 (fun _ => Array.replicate T (.slice none 0 0)) (mkS T) 3 vs (F 3) wf ∧ ∀ b, F 3 b → b < wf.heap.size ∧ _ ≤ b := hf _ (.tail _ (.tail _ (.head _))) (by decide)
  have f9 : BlkAt 22 (fun _ => (U64 (vecP L.p s [1] L.k)).toArray) (mkS L.k) 9 vs (F 9) wf ∧ ∀ b, F 9 b → b < wf.heap.size ∧ _ ≤ b := hf _ (.tail _ (.tail _ (.tail _ (.tail _ (.head _))))) (by decide)
  have f15 : BlkAt 22 (fun _ => (U64 (vecP L.p s [2] m2)).toArray) (mkS m2) 15 vs (F 15) wf ∧ ∀ b, F 15 b → b < wf.heap.size ∧ _ ≤ b := hf _ (.tail _ (.tail _ (.tail _ (.tail _ (.tail _ (.tail _ (.head _))))))) (by decide)
  have f21 : BlkAt 22 (fun _ => (U64 (vecP L.p s [3] m3)).toArray) (mkS m3) 21 vs (F 21) wf ∧ ∀ b, F 21 b → b < wf.heap.size ∧ _ ≤ b := hf _ (.tail _ (.tail _ (.tail _ (.tail _ (.tail _ (.tail _ (.tail _ (.tail _ (.head _))))))))) (by decide)
  have f26 : BlkAt 22 (fun _ => (U64 (vecP bigQ s [4] L.n)).toArray) (mkS L.n) 26 vs (F 26) wf ∧ ∀ b, F 26 b → b < wf.heap.size ∧ _ ≤ b := hf _ (.tail _ (.tail _ (.tail _ (.tail _ (.tail _ (.tail _ (.tail _ (.tail _ (.tail _ (.tail _ (.head _))))))))))) (by decide)
  have f27 : ValAt (fun vs => .agg #[vs 3, vs 9, vs 15, vs 21, vs 26]) 27 vs (F 27) wf ∧ ∀ b, F 27 b → b < wf.heap.size ∧ _ ≤ b := hf _ (.tail _ (.tail _ (.tail _ (.tail _ (.tail _ (.tail _ (.tail _ (.tail _ (.tail _ (.tail _ (.tail _ (.head _)))))))))))) (by decide)
  have f28 : BlkAt 39 (fun _ => #[.slice none 0 0, .slice none 0 0, .slice none 0 0, .slice none 0 0, .slice none 0 0]) mkP 28 vs (F 28) wf ∧ ∀ b, F 28 b → b < wf.heap.size ∧ _ ≤ b := hf _ (.tail _ (.tail _ (.tail _ (.tail _ (.tail _ (.tail _ (.tail _ (.tail _ (.tail _ (.tail _ (.tail _ (.tail _ (.head _))))))))))))) (by decide)
  clear hf
  unfold puts
  simp only [List.foldl]
  have e1 : vs 1 = .int .i64 (T : Int) := f1.1
  have e2 : vs 2 = .int .i64 (T : Int) := f2.1
  obtain ⟨⟨g3, e3, h3, k3⟩, b3⟩ := f3
  have y3 := (b3 _ h3).2
  obtain ⟨⟨g9, e9, h9, k9⟩, b9⟩ := f9
  have y9 := (b9 _ h9).2
  obtain ⟨⟨g15, e15, h15, k15⟩, b15⟩ := f15
  have y15 := (b15 _ h15).2
  obtain ⟨⟨g21, e21, h21, k21⟩, b21⟩ := f21
  have y21 := (b21 _ h21).2
  obtain ⟨⟨g26, e26, h26, k26⟩, b26⟩ := f26
  have y26 := (b26 _ h26).2
  have e27 : vs 27 = .agg #[vs 3, vs 9, vs 15, vs 21, vs 26] := f27.1
  obtain ⟨⟨g28, e28, h28, k28⟩, b28⟩ := f28
  have y28 := (b28 _ h28).2
  have n3_9 : g3 ≠ g9 := fun e => hdis 3 9 _ (by decide) h3 (by rw [e]; exact h9)
  have n3_15 : g3 ≠ g15 := fun e => hdis 3 15 _ (by decide) h3 (by rw [e]; exact h15)
  have n3_21 : g3 ≠ g21 := fun e => hdis 3 21 _ (by decide) h3 (by rw [e]; exact h21)
  have n3_26 : g3 ≠ g26 := fun e => hdis 3 26 _ (by decide) h3 (by rw [e]; exact h26)
  have n3_28 : g3 ≠ g28 := fun e => hdis 3 28 _ (by decide) h3 (by rw [e]; exact h28)
  have n9_15 : g9 ≠ g15 := fun e => hdis 9 15 _ (by decide) h9 (by rw [e]; exact h15)
  have n9_21 : g9 ≠ g21 := fun e => hdis 9 21 _ (by decide) h9 (by rw [e]; exact h21)
  have n9_26 : g9 ≠ g26 := fun e => hdis 9 26 _ (by decide) h9 (by rw [e]; exact h26)
  have n9_28 : g9 ≠ g28 := fun e => hdis 9 28 _ (by decide) h9 (by rw [e]; exact h28)
  have n15_21 : g15 ≠ g21 := fun e => hdis 15 21 _ (by decide) h15 (by rw [e]; exact h21)
  have n15_26 : g15 ≠ g26 := fun e => hdis 15 26 _ (by decide) h15 (by rw [e]; exact h26)
  have n15_28 : g15 ≠ g28 := fun e => hdis 15 28 _ (by decide) h15 (by rw [e]; exact h28)
  have n21_26 : g21 ≠ g26 := fun e => hdis 21 26 _ (by decide) h21 (by rw [e]; exact h26)
  have n21_28 : g21 ≠ g28 := fun e => hdis 21 28 _ (by decide) h21 (by rw [e]; exact h28)
  have n26_28 : g26 ≠ g28 := fun e => hdis 26 28 _ (by decide) h26 (by rw [e]; exact h28)
  simp only [e3, e9, e15, e21, e26] at e27
  simp only [e1, e2, e3, e9, e15, e21, e26, e27, e28]
  clear f1 f2 b3 b9 b15 b21 b26 f27 b28 e1 e2 e3 e9 e15 e21 e26 e27 e28 h3 h9 h15 h21 h26 h28
  try dsimp only [mkS]
  try dsimp only [mkP]
  have c28 := k28.frozen
  have cc28 := k28.cell
  clear hdis
  refine wpO_heavy (from_moves w4.heap.size) rfl rfl rfl ?_
  go_simp
  have hsg := set5_grown (w := wf) (g := g28) (.slice (some ⟨g3, 0, none⟩) T T) (.slice (some ⟨g9, 0, none⟩) L.k L.k) (.slice (some ⟨g15, 0, none⟩) m2 m2) (.slice (some ⟨g21, 0, none⟩) m3 m3) (.slice (some ⟨g26, 0, none⟩) L.n L.n)
  have k28' := set5_blk k28 (.slice (some ⟨g3, 0, none⟩) T T) (.slice (some ⟨g9, 0, none⟩) L.k L.k) (.slice (some ⟨g15, 0, none⟩) m2 m2) (.slice (some ⟨g21, 0, none⟩) m3 m3) (.slice (some ⟨g26, 0, none⟩) L.n L.n)
  refine ⟨below_of_only hsg (by have := hbf.size; omega) y28, ?_⟩
  have kl' : Blk wf w.heap.size _ _ := (kl.below hbW kl.lt).below hbf (by omega)
  have kz' : Blk wf (w.heap.size + 1) _ _ := (kz.below hbW kz.lt).below hbf (by omega)
  have hb0' : Below w.heap.size w wf := (below_chain hb0 hbW).trans (hbf.mono (by omega))
  have hNf : w4.heap.size ≤ wf.heap.size := Nat.le_trans hNc hbf.size
  have hE : ∀ {a b : Nat}, a ≠ b → some a ≠ some b := fun h e => h (Option.some.inj e)
  replace kl' := kl'.grown hsg (hE (by omega))
  replace kz' := kz'.grown hsg (hE (by omega))
  replace k3 := k3.grown hsg (hE n3_28)
  replace k9 := k9.grown hsg (hE n9_28)
  replace k15 := k15.grown hsg (hE n15_28)
  replace k21 := k21.grown hsg (hE n21_28)
  replace k26 := k26.grown hsg (hE n26_28)
  replace hb0' := hb0'.trans (below_of_only hsg hb0'.size (by omega))
  replace hNf := Nat.le_trans hNf hsg.size
  clear hsg c28 cc28 k28 kl kz kn hb0 hbW hbf hNc hacc HWc cl cn l2 HT HD
  generalize ((((wf.setCell _ _).setCell _ _).setCell _ _).setCell _ _).setCell _ _ = w5 at kl' kz' k3 k9 k15 k21 k26 k28' hb0' hNf ⊢
  try simp only [Act.put, List.setIfInBounds_toArray, List.set_cons_zero, List.set_cons_succ]
  refine wpO_done ?_
  have c28 := k28'.cell
  have hs3 : (Array.replicate T (Value.slice none 0 0)).size = T := by simp
  generalize Array.replicate T (Value.slice none 0 0) = cs0 at k3 hs3
  have HN := Lib.hid (show w4.heap.size = w4.heap.size from rfl)
  have x0 : w.heap.size + 1 < w4.heap.size := by omega
  generalize w4.heap.size = N at *
  clear hs1 hs2 l1
  have q1 : (T : Int) ≤ 400000 := by omega
  go_wp2_with fail
  go_loopw [41] (fun y wr => ∃ (i : Nat) (cs : Array Value), i ≤ T ∧ y = .int .i64 (i : Int) ∧ cs.size = T ∧ Blk wr w.heap.size 41 #[.int .u64 (L.p : Int), .int .i64 (L.block : Int), .int .i64 (L.queries : Int), .int .i64 (L.k : Int), .int .i64 (L.n : Int), .int .i64 (L.secret : Int), .int .i64 (L.rows : Int), .int .i64 (L.a : Int), .int .i64 (L.b : Int), .int .i64 (L.b : Int), .int .i64 (L.b : Int)] ∧ Blk wr (w.heap.size + 1) 39 #[.slice none 0 0, .slice none 0 0, .slice none 0 0, .slice none 0 0, .slice none 0 0] ∧ Blk wr g28 39 #[.slice (some ⟨g3, 0, none⟩) T T, .slice (some ⟨g9, 0, none⟩) L.k L.k, .slice (some ⟨g15, 0, none⟩) m2 m2, .slice (some ⟨g21, 0, none⟩) m3 m3, .slice (some ⟨g26, 0, none⟩) L.n L.n] ∧ Blk wr g3 28 cs ∧ FRows N (some g3) wr cs i (fun k => vecP L.p s [0, k] L.queries) ∧ Blk wr g9 22 (U64 (vecP L.p s [1] L.k)).toArray ∧ Blk wr g15 22 (U64 (vecP L.p s [2] m2)).toArray ∧ Blk wr g21 22 (U64 (vecP L.p s [3] m3)).toArray ∧ Blk wr g26 22 (U64 (vecP bigQ s [4] L.n)).toArray ∧ Below w.heap.size w wr ∧ N ≤ wr.heap.size) (fun y _ => T - (intOf y).toNat)
  case atStart => exact ⟨0, cs0, Nat.zero_le _, rfl, hs3, kl', kz', k28', k3, frows_nil _ _ _ _ _, k9, k15, k21, k26, hb0', hNf⟩
  case round =>
    clear kl' kz' k28' k3 k9 k15 k21 k26 hb0' hNf c28 hs3
    obtain ⟨i, cs, hi, rfl, hcs, kl, kz, k28, k3, hfr, k9, k15, k21, k26, hb0, hNw⟩ := hrel
    by_cases hlt : i < T
    · have g2 : (i : Int) < (T : Int) := by omega
      have g1 : (0 : Int) ≤ (i : Int) := by omega
      have ew : IntKind.u64.wrap (i : Int) = (i : Int) := by rw [IntKind.wrap_u64]; omega
      have cl := kl.cell
      have c28 := k28.cell
      have z1 := kl.lt
      have z2 := k28.lt
      have z3 : w.heap.size ≠ g3 := by omega
      have z4 := n3_28.symm
      go_upto_region 6 with fail
      refine wpO_begin (FromX g3 wr.heap.size) [9, 10, 12] [0, 1, 2, 3, 4, 5, 6, 7, 8, 9, 10, 11, 12] (by kernel_rfl) (by kernel_rfl) ?_
      refine wpO_startK (fromX_moves g3 wr.heap.size) ?_
      intro Wc HWc hacc
      have hbW : Below wr.heap.size wr Wc := by rw [HWc.out]; exact (Below.refl _ _).drew
      repeat (first | (refine wpO_skip (fromX_moves g3 wr.heap.size) rfl rfl (fun _ _ _ h => h) ?_ ; simp only [Act.put, List.setIfInBounds_toArray, List.set_cons_zero, List.set_cons_succ]) | (refine wpO_light (v := ?_) (fromX_moves g3 wr.heap.size) rfl rfl (fun _ _ _ h => h) ?_ ?_ ; rotate_left ; (· (intro w' hR ; (first | have hcells := fromX_cellsD ((fromX_moves g3 wr.heap.size).trans _ _ _ hacc hR) | skip) ; go_simp ; try with_reducible rfl)) ; simp only [Act.put, List.setIfInBounds_toArray, List.set_cons_zero, List.set_cons_succ]))
      refine wpO_heavy (fromX_moves g3 wr.heap.size) rfl rfl rfl ?_
      go_simp
      have hNc : wr.heap.size ≤ Wc.heap.size := hbW.size
      refine ⟨fromX_below ((Below.refl _ _).alloc (Nat.le_refl _) _) hNc, ?_⟩
      have hal := (Below.refl Wc.heap.size Wc).alloc (Nat.le_refl _) (.cells #[.int .u64 (s : Int), .int .u64 0, .int .u64 (i : Int)] 22)
      have kA := Blk.new Wc 22 #[.int .u64 (s : Int), .int .u64 0, .int .u64 (i : Int)]
      have hNA : wr.heap.size ≤ (Wc.alloc (.cells #[.int .u64 (s : Int), .int .u64 0, .int .u64 (i : Int)] 22)).heap.size := by have := hal.size; omega
      replace hbW := below_chain hbW hal
      try simp only [Act.put, List.setIfInBounds_toArray, List.set_cons_zero, List.set_cons_succ]
      generalize Wc.alloc _ = w6 at kA hNA hbW ⊢
      generalize Wc.heap.size = gA at kA hNc ⊢
      clear hal hacc HWc
      have hacc := (fromX_moves g3 wr.heap.size).refl w6
      have HC := Lib.hid (HS.out [0, i] L.queries gA w6 (by simpa [U64] using kA) (by intro y hy; simp at hy; omega) (by simp) (by omega))
      refine wpO_call (fromX_moves g3 wr.heap.size) rfl rfl rfl (fun _ => by go_simp <;> rfl) ((HC.out).mono ?_)
      rintro e w7 ⟨g', rfl, hg', kg', hgr⟩
      refine ⟨_, rfl, fromX_row hgr hNA (fun k e => by rw [← Option.some.inj e]; exact hNc), ?_⟩
      replace hacc := (fromX_moves g3 wr.heap.size).trans _ _ _ hacc (fromX_row hgr hNA (fun k e => by rw [← Option.some.inj e]; exact hNc))
      simp only [Act.put, List.setIfInBounds_toArray, List.set_cons_zero, List.set_cons_succ]
      have hwr : Below wr.heap.size wr w7 := hbW.trans (below_of_only hgr hNA hNc)
      have hg3' : g3 ≠ g' := by have := k3.lt; have := hbW.size; omega
      replace kl := kl.below hwr kl.lt
      replace kz := kz.below hwr kz.lt
      replace k28 := k28.below hwr k28.lt
      replace k3 := k3.below hwr k3.lt
      replace k9 := k9.below hwr k9.lt
      replace k15 := k15.below hwr k15.lt
      replace k21 := k21.below hwr k21.lt
      replace k26 := k26.below hwr k26.lt
      replace hfr := frows_below hfr hwr
      replace hb0 := below_chain hb0 hwr
      rw [drawP_vec] at kg'
      have hrx : RWx N (some g3) w7 (.slice (some ⟨g', 0, none⟩) L.queries L.queries) (vecP L.p s [0, i] L.queries) := rwx_blkn kg' (by simp [vecP]) (vecP_lt _ _ _ _ (by omega) hpp.2) (by simp [maxLen]; omega) (by have := hbW.size; omega) (fun e => hg3' (Option.some.inj e).symm)
      replace hNw := Nat.le_trans hNw hwr.size
      have f3 := k3.frozen
      obtain ⟨old, ho⟩ : ∃ old, cs[i]? = some old := ⟨cs[i]'(by omega), Array.getElem?_eq_getElem (by omega)⟩
      have c3 := k3.cell i
      rw [ho] at c3
      clear ho
      have HM := Lib.hid hwr.size
      clear hgr kg' HC kA hbW hwr hNA hNc cl c28 z1 z2 hg'
      repeat (first | (refine wpO_skip (fromX_moves g3 wr.heap.size) rfl rfl (fun _ _ _ h => h) ?_ ; simp only [Act.put, List.setIfInBounds_toArray, List.set_cons_zero, List.set_cons_succ]) | (refine wpO_light (v := ?_) (fromX_moves g3 wr.heap.size) rfl rfl (fun _ _ _ h => h) ?_ ?_ ; rotate_left ; (· (intro w' hR ; (first | have hcells := fromX_cellsD ((fromX_moves g3 wr.heap.size).trans _ _ _ hacc hR) | skip) ; go_simp ; try with_reducible rfl)) ; simp only [Act.put, List.setIfInBounds_toArray, List.set_cons_zero, List.set_cons_succ]))
      refine wpO_heavy (fromX_moves g3 wr.heap.size) rfl rfl rfl ?_
      go_simp
      have hsg : w7.grownBy (w7.setCell ⟨g3, i, none⟩ (.slice (some ⟨g', 0, none⟩) L.queries L.queries)) (some g3) := grown_setCell' (p := ⟨g3, i, none⟩) (grown_refl' w7 _) (.inl rfl) _
      refine ⟨fromX_grown hsg HM.out, ?_⟩
      have hE : ∀ {a b : Nat}, a ≠ b → some a ≠ some b := fun h e => h (Option.some.inj e)
      replace kl := kl.grown hsg (hE (by omega))
      replace kz := kz.grown hsg (hE (by omega))
      replace k28 := k28.grown hsg (hE n3_28.symm)
      replace k9 := k9.grown hsg (hE n3_9.symm)
      replace k15 := k15.grown hsg (hE n3_15.symm)
      replace k21 := k21.grown hsg (hE n3_21.symm)
      replace k26 := k26.grown hsg (hE n3_26.symm)
      replace k3 := k3.set_ i (.slice (some ⟨g', 0, none⟩) L.queries L.queries)
      replace hfr := frows_set (frows_only hfr hsg) (by omega) (rwx_keep hrx hsg.size fun b _ h2 h3 => hsg.block b h2 h3)
      replace hb0 := hb0.trans (below_of_only hsg hb0.size (by omega))
      replace hNw := Nat.le_trans hNw hsg.size
      clear hsg hrx f3 c3 hacc
      generalize w7.setCell _ _ = w8 at kl kz k28 k9 k15 k21 k26 k3 hfr hb0 hNw ⊢
      try simp only [Act.put, List.setIfInBounds_toArray, List.set_cons_zero, List.set_cons_succ]
      refine wpO_done ?_
      go_wp2
      go_roundw
      case rel => exact ⟨i + 1, _, by omega, by go_num, by simp [hcs], kl, kz, k28, k3, hfr, k9, k15, k21, k26, hb0, hNw⟩
      case measure => simp [intOf]; omega
    · obtain rfl : i = T := by omega
      have c28 := k28.cell
      have cz := kz.cell
      have fz := kz.frozen
      have g2 : ¬ ((i : Int) < (i : Int)) := by omega
      go_wp2_with fail
      have hsg := set5_grown (w := wr) (g := w.heap.size + 1) (.slice (some ⟨g3, 0, none⟩) i i) (.slice (some ⟨g9, 0, none⟩) L.k L.k) (.slice (some ⟨g15, 0, none⟩) m2 m2) (.slice (some ⟨g21, 0, none⟩) m3 m3) (.slice (some ⟨g26, 0, none⟩) L.n L.n)
      replace kz := set5_blk kz (.slice (some ⟨g3, 0, none⟩) i i) (.slice (some ⟨g9, 0, none⟩) L.k L.k) (.slice (some ⟨g15, 0, none⟩) m2 m2) (.slice (some ⟨g21, 0, none⟩) m3 m3) (.slice (some ⟨g26, 0, none⟩) L.n L.n)
      have hE : ∀ {a b : Nat}, a ≠ b → some a ≠ some b := fun h e => h (Option.some.inj e)
      replace k9 := k9.grown hsg (hE (by omega))
      replace k15 := k15.grown hsg (hE (by omega))
      replace k21 := k21.grown hsg (hE (by omega))
      replace k26 := k26.grown hsg (hE (by omega))
      replace k3 := k3.grown hsg (hE (by omega))
      replace hfr := frows_keep hfr hsg.size (fun b h1 h2 _ => hsg.block b h2 (hE (by omega)))
      replace hb0 := hb0.trans (below_of_only hsg hb0.size (by omega))
      clear hsg kl k28 c28 cz fz
      generalize ((((wr.setCell _ _).setCell _ _).setCell _ _).setCell _ _).setCell _ _ = w9 at kz k9 k15 k21 k26 k3 hfr hb0 ⊢
      have cz := kz.cell
      refine bodyPost_ret (v := .agg #[.slice (some ⟨g3, 0, none⟩) i i, .slice (some ⟨g9, 0, none⟩) L.k L.k, .slice (some ⟨g15, 0, none⟩) m2 m2, .slice (some ⟨g21, 0, none⟩) m3 m3, .slice (some ⟨g26, 0, none⟩) L.n L.n]) (by simp [results, Try.results8, go_sem, cz]) rfl ?_
      have hp0 : 0 < L.p := by omega
      have hm : ∀ m, m ≤ 65536 → m ≤ maxLen := fun m h => by simp [maxLen]; omega
      exact ⟨_, _, _, _, _, rfl, frows_done hfr k3 (by simp [maxLen]; omega), lw_litn k9 (by simp [vecP]) (vecP_lt _ _ _ _ hp0 hpp.2) (hm _ u1), lw_litn k15 (by simp [vecP]) (vecP_lt _ _ _ _ hp0 hpp.2) (hm _ u2), lw_litn k21 (by simp [vecP]) (vecP_lt _ _ _ _ hp0 hpp.2) (hm _ u3), lw_litn k26 (by simp [vecP]) (vecP_lt _ _ _ _ (by decide) (by decide)) (hm _ u4), hb0⟩
end Go.Proofs.Ytefnagiffllhbaa

/- ElA -/
namespace Go.Proofs.Ytefnagiffllhbaa
open Go.RowKit

/-- The right number of reduced elements. -/
def elOk (l : List Nat) (n p : Nat) : Bool := decide (l.length = n) && l.all fun x => decide (x < p)

set_option maxRecDepth 100000 in
set_option maxHeartbeats 400000 in
theorem el1_any (x p B : Nat) (w : World) (hc : w.cell? ⟨B, 0, none⟩ = some (.int .u64 (p : Int))) :
    Calls Try.prog 65 #[.int .u64 (x : Int), .pointer (some ⟨B, 0, none⟩)] w fun e w' => e = .returned (.bool (decide (p ≤ x))) ∧ Below w.heap.size w w' := by
  obtain ⟨v, hv⟩ : ∃ v, v = decide (p ≤ x) := ⟨_, rfl⟩
  have e1 : decide ((p : Int) ≤ (x : Int)) = v := by rw [hv]; by_cases h : p ≤ x <;> simp [h]
  rw [← hv]
  have HV := Lib.hid hv.symm
  clear hv
  go_enter Try.func65, Try.ntmps65
  go_wp2_with fail
  go_ret
  exact ⟨by first | rfl | (simp [HV.out]), Below.refl _ _⟩

theorem all_take {l : List Nat} {p i : Nat} (h : (l.take i).all (fun x => decide (x < p)) = true) (hi : i < l.length) (hx : ¬ p ≤ l.getD i 0) : (l.take (i + 1)).all (fun x => decide (x < p)) = true := by
  rw [lw_snoc l i hi, List.all_append, h]
  have : decide (l.getD i 0 < p) = true := decide_eq_true (by omega)
  rw [List.all_cons, this]
  rfl
theorem all_not {l : List Nat} {p i : Nat} (hi : i < l.length) (hx : p ≤ l.getD i 0) : l.all (fun x => decide (x < p)) = false := by
  rw [List.all_eq_false]
  refine ⟨l.getD i 0, ?_, by rw [decide_eq_true_iff]; omega⟩
  rw [List.getD_eq_getElem?_getD, List.getElem?_eq_getElem hi]
  exact List.getElem_mem _

set_option maxRecDepth 100000 in
set_option maxHeartbeats 1000000 in
theorem idx_any (A : Option Addr) (n c p B : Nat) (l : List Nat) (w : World) (hl : RWd w [.slice A n c] l) (hc : w.cell? ⟨B, 0, none⟩ = some (.int .u64 (p : Int))) :
    Calls Try.prog 101 #[.slice A n c, .func (.func 65) #[] #[.pointer (some ⟨B, 0, none⟩)]] w fun e w' => ∃ r : Int, e = .returned (.int .i64 r) ∧ decide (0 ≤ r) = !(l.all fun x => decide (x < p)) ∧ Below w.heap.size w w' := by
  obtain ⟨rfl, h1, h2, hlt, hrd⟩ := lw_at hl
  have gm := lw_max h1 h2
  have lB : B < w.heap.size := World.block_lt_of_cell? _ _ hc
  have HX := Lib.hid (fun x w' (hb : Below w.heap.size w w') => el1_any x p B w' ((hb.cell (p := ⟨B, 0, none⟩) lB).trans hc))
  clear hl h1 h2 hlt hc lB
  obtain ⟨ans, ha⟩ : ∃ ans, ans = !(l.all fun x => decide (x < p)) := ⟨_, rfl⟩
  rw [← ha]
  have HA := Lib.hid ha
  clear ha
  go_enter Try.func101, Try.ntmps101
  go_wp2_with fail
  go_loopw [5, 8] (fun _ y wr => ∃ i : Nat, i ≤ l.length ∧ y = .int .i64 (i : Int) ∧ Hid ((l.take i).all (fun x => decide (x < p)) = true) ∧ Below w.heap.size w wr) (fun _ y _ => l.length - (intOf y).toNat)
  case atStart => exact ⟨0, Nat.zero_le _, rfl, rfl, Below.refl _ _⟩
  case round =>
    obtain ⟨i, hi, rfl, HT, hbr⟩ := hrel
    by_cases hlt : i < l.length
    · have g1 : (0 : Int) ≤ (i : Int) := by omega
      have g2 : (i : Int) < (l.length : Int) := by omega
      obtain ⟨b, q, rfl, hbl, hc⟩ := lw_get (hrd.below hbr) hlt
      by_cases hx : p ≤ l.getD i 0
      · have HF := Lib.hid (show ans = true by rw [HA.out, all_not hlt hx]; rfl)
        have HC := Lib.hid (by have := HX.out (l.getD i 0) wr hbr; rw [decide_eq_true hx] at this; exact this)
        generalize l.getD i 0 = z at *
        clear hx HT
        go_wp2_with fail
        refine HC.out.mono ?_
        rintro e w1 ⟨rfl, hb1⟩
        go_wp2
        go_ret
        exact ⟨_, rfl, by rw [HF.out]; exact decide_eq_true g1, below_chain hbr hb1⟩
      · have HT2 := Lib.hid (all_take HT.out hlt hx)
        have HC := Lib.hid (by have := HX.out (l.getD i 0) wr hbr; rw [decide_eq_false hx] at this; exact this)
        generalize l.getD i 0 = z at *
        clear hx HT
        go_wp2_with fail
        refine HC.out.mono ?_
        rintro e w1 ⟨rfl, hb1⟩
        replace hbr := below_chain hbr hb1
        clear hc hb1 hbl
        go_wp2
        go_roundw
        case rel => exact ⟨i + 1, by omega, by go_num, HT2.out, hbr⟩
        case measure => simp [intOf]; omega
    · obtain rfl : i = l.length := by omega
      have HF := Lib.hid (show ans = false by rw [HA.out]; have := HT.out; rw [List.take_length] at this; rw [this]; rfl)
      go_wp2
      go_ret
      exact ⟨_, rfl, by rw [HF.out]; rfl, hbr⟩

set_option maxRecDepth 100000 in
set_option maxHeartbeats 400000 in
theorem cont_any (A : Option Addr) (n c p B : Nat) (l : List Nat) (w : World) (hl : RWd w [.slice A n c] l) (hc : w.cell? ⟨B, 0, none⟩ = some (.int .u64 (p : Int))) :
    Calls Try.prog 64 #[.slice A n c, .func (.func 65) #[] #[.pointer (some ⟨B, 0, none⟩)]] w fun e w' => e = .returned (.bool (!(l.all fun x => decide (x < p)))) ∧ Below w.heap.size w w' := by
  have HI := Lib.hid (idx_any A n c p B l w hl hc)
  clear hl hc
  generalize (!(l.all fun x => decide (x < p))) = ans at *
  go_enter Try.func64, Try.ntmps64
  go_wp2_with fail
  refine HI.out.mono ?_
  rintro e w1 ⟨r, rfl, hr, hb1⟩
  go_wp2
  go_ret
  exact ⟨by first | rfl | (simp [hr]), hb1⟩

set_option maxRecDepth 100000 in
set_option maxHeartbeats 400000 in
theorem elem_any (A : Option Addr) (n c m p : Nat) (l : List Nat) (w : World) (hl : RWd w [.slice A n c] l) :
    Calls Try.prog 32 #[.slice A n c, .int .i64 (m : Int), .int .u64 (p : Int)] w fun e w' => e = .returned (.bool (elOk l m p)) ∧ Below w.heap.size w w' := by
  have hba : Below w.heap.size w (w.alloc (.cells #[.int .u64 (p : Int)] 22)) := (Below.refl _ _).alloc (Nat.le_refl _) _
  have kb := Blk.new w 22 #[.int .u64 (p : Int)]
  have HC := Lib.hid (cont_any A n c p w.heap.size l (w.alloc (.cells #[.int .u64 (p : Int)] 22)) (kept_RWd _ _ _ _ hba hl) (by rw [kb.cell]; rfl))
  obtain ⟨rfl, h1, h2, hlt, hrd⟩ := lw_at hl
  clear hl h1 h2 hlt hrd kb
  have HE := Lib.hid (show elOk l m p = (decide (l.length = m) && l.all fun x => decide (x < p)) from rfl)
  by_cases hm : l.length = m
  · have HF := Lib.hid (show elOk l m p = l.all fun x => decide (x < p) by rw [HE.out, decide_eq_true hm]; rfl)
    have t1 : ((l.length : Int) == (m : Int)) = true := by rw [beq_iff_eq]; omega
    rw [HF.out]
    clear hm HF HE
    generalize l.length = n at *
    generalize (l.all fun x => decide (x < p)) = v at *
    go_enter Try.func32, Try.ntmps32
    go_wp2_with fail
    refine HC.out.mono ?_
    rintro e w1 ⟨rfl, hb1⟩
    go_wp2
    go_ret
    exact ⟨by cases v <;> rfl, below_chain hba hb1⟩
  · have HF := Lib.hid (show elOk l m p = false by rw [HE.out, decide_eq_false hm]; rfl)
    have t1 : ((l.length : Int) == (m : Int)) = false := by rw [beq_eq_false_iff_ne]; omega
    rw [HF.out]
    clear hm HF HE HC
    generalize l.length = n at *
    go_enter Try.func32, Try.ntmps32
    go_wp2_with fail
    go_ret
    exact ⟨rfl, hba⟩

set_option maxRecDepth 100000 in
set_option maxHeartbeats 1000000 in
theorem num25_any (A : Option Addr) (n c m p : Nat) (l : List Nat) (w : World) (hl : RWd w [.slice A n c] l) :
    Calls Try.prog 33 #[.slice A n c, .int .i64 (m : Int), .int .u64 (p : Int)] w fun e w' => e = .returned (.bool (elOk l m p)) ∧ Below w.heap.size w w' := by
  obtain ⟨rfl, h1, h2, hlt, hrd⟩ := lw_at hl
  have gm := lw_max h1 h2
  clear hl h1 h2 hlt
  obtain ⟨ans, ha⟩ : ∃ ans, ans = elOk l m p := ⟨_, rfl⟩
  rw [← ha]
  have HA := Lib.hid (show ans = (decide (l.length = m) && l.all fun x => decide (x < p)) from ha)
  have HM := Lib.hid (show ((l.length : Int) == (m : Int)) = decide (l.length = m) by by_cases h : l.length = m <;> simp [h] <;> omega)
  clear ha
  go_enter Try.func33, Try.ntmps33
  go_wp2_with fail
  go_loopw [7] (fun y wr => ∃ i : Nat, i ≤ l.length ∧ y = .int .i64 (i : Int) ∧ Hid ((l.take i).all (fun x => decide (x < p)) = true) ∧ wr = w) (fun y _ => l.length - (intOf y).toNat)
  case atStart => exact ⟨0, Nat.zero_le _, rfl, rfl, rfl⟩
  case round =>
    obtain ⟨i, hi, rfl, HT, rfl⟩ := hrel
    by_cases hlt : i < l.length
    · have g1 : (0 : Int) ≤ (i : Int) := by omega
      have g2 : (i : Int) < (l.length : Int) := by omega
      obtain ⟨b, q, rfl, hbl, hc⟩ := lw_get hrd hlt
      by_cases hx : p ≤ l.getD i 0
      · have HF := Lib.hid (show ans = false by rw [HA.out, all_not hlt hx]; simp)
        have t1 : decide ((p : Int) ≤ ((l.getD i 0 : Nat) : Int)) = true := decide_eq_true (by omega)
        have t2 : (p : Int) ≤ ((l.getD i 0 : Nat) : Int) := by omega
        generalize l.getD i 0 = z at *
        clear hx HT
        go_wp2_with fail
        go_ret
        exact ⟨by rw [HF.out]; rfl, Below.refl _ _⟩
      · have HT2 := Lib.hid (all_take HT.out hlt hx)
        have t1 : decide ((p : Int) ≤ ((l.getD i 0 : Nat) : Int)) = false := decide_eq_false (by omega)
        have t2 : ¬ (p : Int) ≤ ((l.getD i 0 : Nat) : Int) := by omega
        generalize l.getD i 0 = z at *
        clear hx HT
        go_wp2_with fail
        go_roundw
        case rel => exact ⟨i + 1, by omega, by go_num, HT2.out, by trivial⟩
        case measure => simp [intOf]; omega
    · obtain rfl : i = l.length := by omega
      have HF := Lib.hid (show ans = ((l.length : Int) == (m : Int)) by rw [HM.out, HA.out]; have := HT.out; rw [List.take_length] at this; rw [this, Bool.and_true])
      go_wp2_with fail
      go_ret
      exact ⟨by rw [HF.out]; rfl, Below.refl _ _⟩
end Go.Proofs.Ytefnagiffllhbaa
