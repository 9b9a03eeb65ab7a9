/-
  prover.parts.
-/
import Derived.Test.YtkaecidnkkcbaaaPrD
namespace Go.Proofs.Ytkaecidnkkcbaaa
open Go.RowKit

theorem info_part : (Try.prog.info? 69).map (fun i => (i.zero, i.size, i.bytes)) = some (some (.agg #[.pointer none, .int .i64 0, .int .u64 0]), 3, 24) := by kernel_rfl
theorem el_part : Elem Try.prog 64 69 3 24 (.agg #[.pointer none, .int .i64 0, .int .u64 0]) := by
  obtain ⟨i0, hi, hz0, hz1, hz2⟩ := info_parts info_part
  exact ⟨Try.underlying64, ⟨i0, hi, hz0, hz1, hz2⟩, rfl, by omega⟩

/-- A part of a proof: where its list lies, how long it must be, and what its numbers are less than. -/
structure PartR where
  ptr : Addr
  size : Nat
  lim : Nat
def pcs (l : List PartR) : List Value := l.flatMap fun x => [.pointer (some x.ptr), .int .i64 (x.size : Int), .int .u64 (x.lim : Int)]
theorem pcs_append (l m : List PartR) : pcs (l ++ m) = pcs l ++ pcs m := by simp [pcs]
theorem pcs_len (l : List PartR) : (pcs l).length = l.length * 3 := by
  induction l with
  | nil => rfl
  | cons x l ih => simp [pcs] at ih ⊢; omega
theorem pcs_one (l : List PartR) : ∀ u ∈ pcs l, u.oneCell' = true := by
  intro u hu
  simp only [pcs, List.mem_flatMap] at hu
  obtain ⟨x, -, hx⟩ := hu
  simp at hx
  rcases hx with rfl | rfl | rfl <;> rfl
def parts3 (L : LayR) (g : Nat) : List PartR := [⟨⟨g, 1, none⟩, L.k, L.p⟩, ⟨⟨g, 2, none⟩, L.k + L.block - 1, L.p⟩, ⟨⟨g, 3, none⟩, 2 * L.k - 1, L.p⟩]
def partsC (b q n size lim : Nat) : List PartR := (List.range n).map fun i => ⟨⟨b, q + i, none⟩, size, lim⟩
theorem partsC_succ (b q n size lim : Nat) : partsC b q (n + 1) size lim = partsC b q n size lim ++ [⟨⟨b, q + n, none⟩, size, lim⟩] := by simp [partsC, List.range_succ]
def partsOf (L : LayR) (j g b4 q4 b6 q6 : Nat) : List PartR :=
  parts3 L g ++ partsC b4 q4 L.queries (L.a + L.b + L.b + L.b + 3) L.p ++ [⟨⟨g, 5, none⟩, L.queries, bigP⟩] ++ partsC b6 q6 L.queries j bigP

/-- The row that the literal of three parts lays. -/
theorem own_three (w : World) (base : Nat) (x1 x2 x3 x4 x5 x6 x7 x8 x9 : Value) (hb : base ≤ w.heap.size) :
    (w.alloc (.cells #[x1, x2, x3, x4, x5, x6, x7, x8, x9] 69)).ownsRow base 69 3 (.slice (some ⟨w.heap.size, 0, none⟩) 3 3) 3 [x1, x2, x3, x4, x5, x6, x7, x8, x9] :=
  ⟨rfl, .inr ⟨w.heap.size, 3, _, rfl, hb, heap_alloc_new w _, by omega, by simp [maxLen], rfl, rfl⟩⟩

theorem below_chainB {B : Nat} {w0 w1 w2 : World} (h1 : Below B w0 w1) (h2 : Below w1.heap.size w1 w2) (hB : B ≤ w1.heap.size := by omega) : Below B w0 w2 := h1.trans (h2.mono hB)
theorem own_hid {w W : World} {base : Nat} {e : TypeId} {size : Nat} {v : Value} {n : Nat} {xs : List Value} (hW : Hid (W = w.drew)) (h : w.ownsRow base e size v n xs) : W.ownsRow base e size v n xs := by rw [hW.out]; exact h
theorem below_hid {B : Nat} {w0 w W : World} (hW : Hid (W = w.drew)) (h : Below B w0 w) : Below B w0 W := by rw [hW.out]; exact h.drew
theorem own_nonnil {w : World} {base : Nat} {e : TypeId} {size : Nat} {v : Value} {n : Nat} {xs : List Value} (h : w.ownsRow base e size v n xs) (hn : 0 < n) : ∃ r c, v = .slice (some ⟨r, 0, none⟩) n c ∧ base ≤ r ∧ r < w.heap.size := by
  rcases h.2 with ⟨-, h0⟩ | ⟨r, c, cur, hv, hb, hh, -⟩
  · omega
  · exact ⟨r, c, hv, hb, (Array.getElem?_eq_some_iff.1 hh).1⟩
theorem rd_three (w : World) (x y z : Value) (t : TypeId) : Rd (w.alloc (.cells #[x, y, z] t)) 3 (some ⟨w.heap.size, 0, none⟩) 1 [x, y, z] := by
  refine ⟨rfl, fun _ => ⟨_, rfl, fun j u hj => ?_⟩⟩
  match j, hj with
  | 0, hj => simp at hj; subst hj; simp [Addr.add]
  | 1, hj => simp at hj; subst hj; simp [Addr.add]
  | 2, hj => simp at hj; subst hj; simp [Addr.add]
theorem one_part (a : Addr) (n m : Int) : ∀ u ∈ [Value.pointer (some a), .int .i64 n, .int .u64 m], u.oneCell' = true := by
  intro u hu
  simp at hu
  rcases hu with rfl | rfl | rfl <;> rfl

set_option maxRecDepth 100000 in
set_option maxHeartbeats 1000000 in
theorem parts_nil (L : LayR) (P : ProofR) (S : PS) (g : Nat) (w : World) (kg : Blk w g 35 (prCs P S)) (h : ¬ (S.n4 = L.queries ∧ S.n6 = L.queries)) :
    Calls Try.prog 22 #[.agg (layCs L), .pointer (some ⟨g, 0, none⟩)] w fun e w' => e = .returned (.slice none 0 0) ∧ Below w.heap.size w w' := by
  unfold layCs
  unfold prCs at kg
  have hb0 : Below w.heap.size w (w.alloc (.cells #[.int .u64 (L.p : Int), .int .i64 (L.block : Int), .int .i64 (L.queries : Int), .int .i64 (L.k : Int), .int .i64 (L.n : Int), .int .i64 (L.secret : Int), .int .i64 (L.rows : Int), .int .i64 (L.a : Int), .int .i64 (L.b : Int), .int .i64 (L.b : Int), .int .i64 (L.b : Int)] 44)) := (Below.refl _ _).alloc (Nat.le_refl _) _
  have kl := Blk.new w 44 #[.int .u64 (L.p : Int), .int .i64 (L.block : Int), .int .i64 (L.queries : Int), .int .i64 (L.k : Int), .int .i64 (L.n : Int), .int .i64 (L.secret : Int), .int .i64 (L.rows : Int), .int .i64 (L.a : Int), .int .i64 (L.b : Int), .int .i64 (L.b : Int), .int .i64 (L.b : Int)]
  have kg0 := kg.below hb0 kg.lt
  by_cases z : S.n4 = L.queries
  · have d1 : ((S.n4 : Int) != (L.queries : Int)) = false := by rw [bne_eq_false_iff_eq]; omega
    have d2 : ((S.n6 : Int) != (L.queries : Int)) = true := by rw [bne_iff_ne]; omega
    clear z h
    go_enter Try.func22, Try.ntmps22
    go_wp2_with fail
    revert hb0 kl kg0
    generalize w.alloc _ = w0
    intro hb0 kl kg0
    have c0 := kl.cell
    have cg := kg0.cell
    have l0 := kl.lt
    have lg := kg0.lt
    refine wpO_begin (Later) [] [0, 1, 2, 3, 4, 5, 6, 7, 8, 9, 10, 11, 12, 13, 14, 15, 16, 17] (by kernel_rfl) (by kernel_rfl) ?_
    refine wpO_start (later_moves) ?_
    intro Wc hacc
    repeat (first | (refine wpO_skip (later_moves) rfl rfl (fun _ _ _ h => h) ?_ ; simp only [Act.put, List.setIfInBounds_toArray, List.set_cons_zero, List.set_cons_succ]) | (refine wpO_light (v := ?_) (later_moves) rfl rfl (fun _ _ _ h => h) ?_ ?_ ; rotate_left ; (· (intro w' hR ; (first | have hcells := later_cellsD ((later_moves).trans _ _ _ hacc hR) | skip) ; go_simp ; try with_reducible rfl)) ; simp only [Act.put, List.setIfInBounds_toArray, List.set_cons_zero, List.set_cons_succ]))
    refine wpO_done ?_
    go_wp2
    go_ret
    exact ⟨rfl, below_chain hb0.drew hacc⟩
  · have d1 : ((S.n4 : Int) != (L.queries : Int)) = true := by rw [bne_iff_ne]; omega
    clear z h
    go_enter Try.func22, Try.ntmps22
    go_wp2_with fail
    revert hb0 kl kg0
    generalize w.alloc _ = w0
    intro hb0 kl kg0
    have c0 := kl.cell
    have cg := kg0.cell
    have l0 := kl.lt
    have lg := kg0.lt
    refine wpO_begin (Later) [] [0, 1, 2, 3, 4, 5, 6, 7, 8, 9, 10, 11, 12, 13, 14, 15, 16, 17] (by kernel_rfl) (by kernel_rfl) ?_
    refine wpO_start (later_moves) ?_
    intro Wc hacc
    repeat (first | (refine wpO_skip (later_moves) rfl rfl (fun _ _ _ h => h) ?_ ; simp only [Act.put, List.setIfInBounds_toArray, List.set_cons_zero, List.set_cons_succ]) | (refine wpO_light (v := ?_) (later_moves) rfl rfl (fun _ _ _ h => h) ?_ ?_ ; rotate_left ; (· (intro w' hR ; (first | have hcells := later_cellsD ((later_moves).trans _ _ _ hacc hR) | skip) ; go_simp ; try with_reducible rfl)) ; simp only [Act.put, List.setIfInBounds_toArray, List.set_cons_zero, List.set_cons_succ]))
    refine wpO_done ?_
    go_wp2
    go_ret
    exact ⟨rfl, below_chain hb0.drew hacc⟩

set_option maxRecDepth 100000 in
set_option maxHeartbeats 4000000 in
theorem parts_any (L : LayR) (j : Nat) (P : ProofR) (S : PS) (g b4 q4 b6 q6 : Nat) (w : World) (hL : LayOk L) (hn : L.n = 2 ^ j) (hj : j ≤ 10) (kg : Blk w g 35 (prCs P S)) (h4 : S.n4 = L.queries) (h6 : S.n6 = L.queries)
    (hg : g < w.heap.size) (hA4 : S.A4 = some ⟨b4, q4, none⟩) (hA6 : S.A6 = some ⟨b6, q6, none⟩) (hc4 : S.n4 ≤ S.c4 ∧ S.c4 ≤ maxLen) (hc6 : S.n6 ≤ S.c6 ∧ S.c6 ≤ maxLen) :
    Calls Try.prog 22 #[.agg (layCs L), .pointer (some ⟨g, 0, none⟩)] w fun e w' => ∃ v n, e = .returned v ∧ w'.ownsRow w.heap.size 69 3 v n (pcs (partsOf L j g b4 q4 b6 q6)) ∧ Below w.heap.size w w' := by
  have HLv := Lib.hid (fun w => levels_any L j w hn hj)
  have HT := Lib.hid (fun w => pTotal_any L.p L.block L.queries L.k L.n L.secret L.rows L.a L.b L.b L.b w hL.a hL.b hL.b hL.b)
  have b1 := hL.b1
  have b2 := hL.b2
  have b3 := hL.q1
  have b5 := hL.q2
  have b6' := hL.k
  have hT : L.a + L.b + L.b + L.b ≤ 400000 := by have := hL.a; have := hL.b; omega
  have HP : Hid (partsOf L j g b4 q4 b6 q6 = parts3 L g ++ partsC b4 q4 L.queries (L.a + L.b + L.b + L.b + 3) L.p ++ [⟨⟨g, 5, none⟩, L.queries, bigP⟩] ++ partsC b6 q6 L.queries j bigP) := rfl
  rw [HP.out]
  clear HP
  revert HT hT
  generalize L.a + L.b + L.b + L.b = T
  intro HT hT
  have e3 : IntKind.i64.wrap ((T : Int) + 3) = ((T + 3 : Nat) : Int) := by rw [wr_i64 _ (by omega) (by omega)]; omega
  have e4 : (T : Int) + 3 = ((T + 3 : Nat) : Int) := by omega
  have e5 : IntKind.i64.wrap ((T + 3 : Nat) : Int) = ((T + 3 : Nat) : Int) := wr_i64 _ (by omega) (by omega)
  have eX1 : IntKind.i64.wrap ((L.k : Int) + (L.block : Int)) = (L.k : Int) + (L.block : Int) := wr_i64 _ (by omega) (by omega)
  have eX2 : IntKind.i64.wrap ((L.k : Int) + (L.block : Int) - 1) = ((L.k + L.block - 1 : Nat) : Int) := by rw [wr_i64 _ (by omega) (by omega)]; omega
  have eX3 : (L.k : Int) + (L.block : Int) - 1 = ((L.k + L.block - 1 : Nat) : Int) := by omega
  have eX4 : IntKind.i64.wrap ((L.k + L.block - 1 : Nat) : Int) = ((L.k + L.block - 1 : Nat) : Int) := wr_i64 _ (by omega) (by omega)
  have eY1 : IntKind.i64.wrap (2 * (L.k : Int)) = 2 * (L.k : Int) := wr_i64 _ (by omega) (by omega)
  have eY2 : IntKind.i64.wrap (2 * (L.k : Int) - 1) = ((2 * L.k - 1 : Nat) : Int) := by rw [wr_i64 _ (by omega) (by omega)]; omega
  have eY3 : 2 * (L.k : Int) - 1 = ((2 * L.k - 1 : Nat) : Int) := by omega
  have eY4 : IntKind.i64.wrap ((2 * L.k - 1 : Nat) : Int) = ((2 * L.k - 1 : Nat) : Int) := wr_i64 _ (by omega) (by omega)
  have HP3 : Hid (parts3 L g = [⟨⟨g, 1, none⟩, L.k, L.p⟩, ⟨⟨g, 2, none⟩, L.k + L.block - 1, L.p⟩, ⟨⟨g, 3, none⟩, 2 * L.k - 1, L.p⟩]) := rfl
  revert e3 e4 e5 eX2 eX3 eX4 eY2 eY3 eY4 HP3
  generalize T + 3 = T3
  generalize L.k + L.block - 1 = x
  generalize 2 * L.k - 1 = y
  intro e3 e4 e5 eX2 eX3 eX4 eY2 eY3 eY4 HP3
  have d1 : ((S.n4 : Int) != (L.queries : Int)) = false := by rw [bne_eq_false_iff_eq]; omega
  have d2 : ((S.n6 : Int) != (L.queries : Int)) = false := by rw [bne_eq_false_iff_eq]; omega
  have H4 := Lib.hid h4
  have H6 := Lib.hid h6
  have HQ := Lib.hid b5
  clear b1 b2 b3 b5 b6' hL hn hj hT h4 h6
  unfold layCs at HLv ⊢
  unfold prCs at kg
  rw [hA4, hA6] at kg
  have hb0 : Below w.heap.size w (w.alloc (.cells #[.int .u64 (L.p : Int), .int .i64 (L.block : Int), .int .i64 (L.queries : Int), .int .i64 (L.k : Int), .int .i64 (L.n : Int), .int .i64 (L.secret : Int), .int .i64 (L.rows : Int), .int .i64 (L.a : Int), .int .i64 (L.b : Int), .int .i64 (L.b : Int), .int .i64 (L.b : Int)] 44)) := (Below.refl _ _).alloc (Nat.le_refl _) _
  have kl := Blk.new w 44 #[.int .u64 (L.p : Int), .int .i64 (L.block : Int), .int .i64 (L.queries : Int), .int .i64 (L.k : Int), .int .i64 (L.n : Int), .int .i64 (L.secret : Int), .int .i64 (L.rows : Int), .int .i64 (L.a : Int), .int .i64 (L.b : Int), .int .i64 (L.b : Int), .int .i64 (L.b : Int)]
  have kg0 := kg.below hb0 kg.lt
  clear kg hA4 hA6
  go_enter Try.func22, Try.ntmps22
  go_wp2_with fail
  revert hb0 kl kg0
  generalize w.alloc _ = w0
  intro hb0 kl kg0
  have c0 := kl.cell
  have cg := kg0.cell
  have l0 := kl.lt
  have lg := kg0.lt
  refine wpO_begin (Later) [] [0, 1, 2, 3, 4, 5, 6, 7, 8, 9, 10, 11, 12, 13, 14, 15, 16, 17] (by kernel_rfl) (by kernel_rfl) ?_
  refine wpO_start (later_moves) ?_
  intro Wc hacc
  repeat (first | (refine wpO_skip (later_moves) rfl rfl (fun _ _ _ h => h) ?_ ; simp only [Act.put, List.setIfInBounds_toArray, List.set_cons_zero, List.set_cons_succ]) | (refine wpO_light (v := ?_) (later_moves) rfl rfl (fun _ _ _ h => h) ?_ ?_ ; rotate_left ; (· (intro w' hR ; (first | have hcells := later_cellsD ((later_moves).trans _ _ _ hacc hR) | skip) ; go_simp ; try with_reducible rfl)) ; simp only [Act.put, List.setIfInBounds_toArray, List.set_cons_zero, List.set_cons_succ]))
  refine wpO_done ?_
  replace kl := kl.drew.below hacc kl.lt
  replace kg0 := kg0.drew.below hacc kg0.lt
  replace hb0 := below_chain hb0.drew hacc
  clear c0 cg l0 lg hacc
  have c0 := kl.cell
  have cg := kg0.cell
  have l0 := kl.lt
  have lg := kg0.lt
  go_wp2_with fail
  refine wpO_begin (Later) [30] [0, 1, 2, 3, 4, 5, 6, 7, 8, 9, 10, 11, 12, 13, 14, 15, 16, 17, 18, 19, 20, 21, 22, 23, 24, 25, 26, 27, 28, 29, 30, 31] (by kernel_rfl) (by kernel_rfl) ?_
  refine wpO_start (later_moves) ?_
  intro Wc hacc
  repeat (first | (refine wpO_skip (later_moves) rfl rfl (fun _ _ _ h => h) ?_ ; simp only [Act.put, List.setIfInBounds_toArray, List.set_cons_zero, List.set_cons_succ]) | (refine wpO_light (v := ?_) (later_moves) rfl rfl (fun _ _ _ h => h) ?_ ?_ ; rotate_left ; (· (intro w' hR ; (first | have hcells := later_cellsD ((later_moves).trans _ _ _ hacc hR) | skip) ; go_simp ; try with_reducible rfl)) ; simp only [Act.put, List.setIfInBounds_toArray, List.set_cons_zero, List.set_cons_succ]))
  refine wpO_heavy (later_moves) rfl rfl rfl ?_
  go_simp
  refine ⟨(Below.refl _ _).alloc (Nat.le_refl _) _, ?_⟩
  have hls : w.heap.size + 1 ≤ Wc.heap.size := by have := Below.size hacc; simp at this; omega
  have hown := own_three Wc (w.heap.size + 1) (.pointer (some ⟨g, 1, none⟩)) (.int .i64 (L.k : Int)) (.int .u64 (L.p : Int)) (.pointer (some ⟨g, 2, none⟩)) (.int .i64 (x : Int)) (.int .u64 (L.p : Int)) (.pointer (some ⟨g, 3, none⟩)) (.int .i64 (y : Int)) (.int .u64 (L.p : Int)) hls
  replace hacc := later_moves.trans _ _ _ hacc ((Below.refl Wc.heap.size Wc).alloc (Nat.le_refl _) (.cells #[.pointer (some ⟨g, 1, none⟩), .int .i64 (L.k : Int), .int .u64 (L.p : Int), .pointer (some ⟨g, 2, none⟩), .int .i64 (x : Int), .int .u64 (L.p : Int), .pointer (some ⟨g, 3, none⟩), .int .i64 (y : Int), .int .u64 (L.p : Int)] 69))
  clear hls
  revert hown hacc
  try simp only [Act.put, List.setIfInBounds_toArray, List.set_cons_zero, List.set_cons_succ]
  generalize Wc.alloc _ = w2
  generalize Wc.heap.size = gr
  intro hown hacc
  repeat (first | (refine wpO_skip (later_moves) rfl rfl (fun _ _ _ h => h) ?_ ; simp only [Act.put, List.setIfInBounds_toArray, List.set_cons_zero, List.set_cons_succ]) | (refine wpO_light (v := ?_) (later_moves) rfl rfl (fun _ _ _ h => h) ?_ ?_ ; rotate_left ; (· (intro w' hR ; (first | have hcells := later_cellsD ((later_moves).trans _ _ _ hacc hR) | skip) ; go_simp ; try with_reducible rfl)) ; simp only [Act.put, List.setIfInBounds_toArray, List.set_cons_zero, List.set_cons_succ]))
  refine wpO_done ?_
  replace kl := kl.drew.below hacc kl.lt
  replace kg0 := kg0.drew.below hacc kg0.lt
  replace hb0 := below_chain hb0.drew hacc
  clear c0 cg l0 lg hacc
  have c0 := kl.cell
  have cg := kg0.cell
  have hlw : w.heap.size + 1 ≤ w2.heap.size := kl.lt
  have hgw : g < w.heap.size := hg
  have HP0 : Hid ([.pointer (some ⟨g, 1, none⟩), .int .i64 (L.k : Int), .int .u64 (L.p : Int), .pointer (some ⟨g, 2, none⟩), .int .i64 (x : Int), .int .u64 (L.p : Int), .pointer (some ⟨g, 3, none⟩), .int .i64 (y : Int), .int .u64 (L.p : Int)] = pcs (parts3 L g)) := by rw [HP3.out]; rfl
  rw [HP0.out] at hown
  have m4 := max_int hc4.1 hc4.2
  have m6 := max_int hc6.1 hc6.2
  clear hc4 hc6 HP0 HP3
  go_wp2_with fail
  go_loopw [5, 62] (fun v i wr => ∃ k : Nat, k ≤ S.n4 ∧ i = .int .i64 (k : Int) ∧ wr.ownsRow (w.heap.size + 1) 69 3 v (3 + k) (pcs (parts3 L g ++ partsC b4 q4 k T3 L.p)) ∧ Below (w.heap.size + 1) w2 wr) (fun _ i _ => S.n4 - (intOf i).toNat)
  case atStart => exact ⟨0, Nat.zero_le _, rfl, by simpa [partsC] using hown, Below.refl _ _⟩
  case round =>
    clear hown c0 cg
    obtain ⟨k, hk, rfl, hown, hBw⟩ := hrel
    obtain ⟨r, cr, rfl, hr1, hr2⟩ := own_nonnil hown (by omega)
    have kl' := kl.below hBw (by omega)
    have kg' := kg0.below hBw (by omega)
    have c0 := kl'.cell
    have cg := kg'.cell
    have l0 := kl'.lt
    have lg := kg'.lt
    have n1 : w.heap.size ≠ r := by omega
    have n2 : g ≠ r := by omega
    by_cases hlt : k < S.n4
    · have g1 : (0 : Int) ≤ (k : Int) := by omega
      have g2 : (k : Int) < (S.n4 : Int) := by omega
      go_wp2_with fail
      refine wpO_begin (Only r) [8, 13, 14] [0, 1, 2, 3, 4, 5, 6, 7, 10, 11, 8, 9, 12, 13, 14, 15] (by kernel_rfl) (by kernel_rfl) ?_
      refine wpO_startK (only_moves r) ?_
      intro Wc HWc hacc
      replace hown := own_hid HWc hown
      replace hBw := below_hid HWc hBw
      clear HWc
      repeat (first | (refine wpO_skip (only_moves r) rfl rfl (fun _ _ _ h => h) ?_ ; simp only [Act.put, List.setIfInBounds_toArray, List.set_cons_zero, List.set_cons_succ]) | (refine wpO_light (v := ?_) (only_moves r) rfl rfl (fun _ _ _ h => h) ?_ ?_ ; rotate_left ; (· (intro w' hR ; (first | have hcells := only_cellsD ((only_moves r).trans _ _ _ hacc hR) | skip) ; go_simp ; try with_reducible rfl)) ; simp only [Act.put, List.setIfInBounds_toArray, List.set_cons_zero, List.set_cons_succ]))
      refine wpO_call (only_moves r) rfl rfl rfl (fun _ => by go_simp <;> rfl) ((HT.out _).mono ?_)
      rintro e w4 ⟨rfl, hb4⟩
      refine ⟨_, rfl, only_of_later hb4, ?_⟩
      replace hacc := (only_moves r).trans _ _ _ hacc (only_of_later hb4)
      simp only [Act.put, List.setIfInBounds_toArray, List.set_cons_zero, List.set_cons_succ]
      replace hown := own_below hown hb4 (Nat.le_refl _)
      have hls4 : w.heap.size + 1 ≤ Wc.heap.size := by have := hBw.size; omega
      replace hBw := below_chainB hBw hb4 hls4
      clear hb4 hls4
      repeat (first | (refine wpO_skip (only_moves r) rfl rfl (fun _ _ _ h => h) ?_ ; simp only [Act.put, List.setIfInBounds_toArray, List.set_cons_zero, List.set_cons_succ]) | (refine wpO_light (v := ?_) (only_moves r) rfl rfl (fun _ _ _ h => h) ?_ ?_ ; rotate_left ; (· (intro w' hR ; (first | have hcells := only_cellsD ((only_moves r).trans _ _ _ hacc hR) | skip) ; go_simp ; try with_reducible rfl)) ; simp only [Act.put, List.setIfInBounds_toArray, List.set_cons_zero, List.set_cons_succ]))
      refine wpO_heavy (only_moves r) rfl rfl rfl ?_
      go_simp
      refine ⟨only_of_later ((Below.refl _ _).alloc (Nat.le_refl _) _), ?_⟩
      have hal := (Below.refl w4.heap.size w4).alloc (Nat.le_refl _) (.cells #[.pointer (some ⟨b4, q4 + k, none⟩), .int .i64 (T3 : Int), .int .u64 (L.p : Int)] 69)
      have hrd := rd_three w4 (.pointer (some ⟨b4, q4 + k, none⟩)) (.int .i64 (T3 : Int)) (.int .u64 (L.p : Int)) 69
      replace hacc := (only_moves r).trans _ _ _ hacc (only_of_later hal)
      replace hown := own_below hown hal (Nat.le_refl _)
      replace hBw := below_chainB hBw hal (by have := hBw.size; omega)
      have hls : w.heap.size + 1 ≤ (w4.alloc (.cells #[.pointer (some ⟨b4, q4 + k, none⟩), .int .i64 (T3 : Int), .int .u64 (L.p : Int)] 69)).heap.size := by have := hBw.size; omega
      revert hrd hacc hown hBw hls
      try simp only [Act.put, List.setIfInBounds_toArray, List.set_cons_zero, List.set_cons_succ]
      generalize w4.alloc _ = We
      generalize w4.heap.size = ge
      intro hrd hacc hown hBw hls
      refine wpO_heavy (only_moves r) rfl rfl rfl ?_
      refine wp_append_rd _ _ rfl el_part rfl hown rfl hrd (one_part _ _ _) (by have := H4.out; have := HQ.out; omega) hls ?_
      intro v' wn hown' hgrow hblk
      refine ⟨hgrow, ?_⟩
      replace hacc := (only_moves r).trans _ _ _ hacc hgrow
      replace hBw := hBw.trans (below_of_grown hgrow (w.heap.size + 1) hls (fun z hz => by have hz2 : r = z := Option.some.inj hz; omega))
      try simp only [Act.put, List.setIfInBounds_toArray, List.set_cons_zero, List.set_cons_succ]
      repeat (first | (refine wpO_skip (only_moves r) rfl rfl (fun _ _ _ h => h) ?_ ; simp only [Act.put, List.setIfInBounds_toArray, List.set_cons_zero, List.set_cons_succ]) | (refine wpO_light (v := ?_) (only_moves r) rfl rfl (fun _ _ _ h => h) ?_ ?_ ; rotate_left ; (· (intro w' hR ; (first | have hcells := only_cellsD ((only_moves r).trans _ _ _ hacc hR) | skip) ; go_simp ; try with_reducible rfl)) ; simp only [Act.put, List.setIfInBounds_toArray, List.set_cons_zero, List.set_cons_succ]))
      refine wpO_done ?_
      go_wp2
      go_roundw
      case rel =>
        refine ⟨k + 1, by omega, by go_num, ?_, hBw⟩
        rw [partsC_succ, ← List.append_assoc, pcs_append]
        exact hown'
      case measure => simp [intOf]; omega
    · have ek : k = S.n4 := by omega
      have HPP : Hid (parts3 L g ++ partsC b4 q4 k T3 L.p = parts3 L g ++ partsC b4 q4 L.queries T3 L.p) := by rw [ek, H4.out]; rfl
      rw [HPP.out] at hown
      clear HPP
      have EK := Lib.hid ek
      clear ek
      go_wp2_with fail
      refine wpO_begin (Only r) [7, 8] [0, 1, 2, 3, 4, 5, 6, 7, 8, 9] (by kernel_rfl) (by kernel_rfl) ?_
      refine wpO_startK (only_moves r) ?_
      intro Wc HWc hacc
      replace hown := own_hid HWc hown
      replace hBw := below_hid HWc hBw
      clear HWc
      repeat (first | (refine wpO_skip (only_moves r) rfl rfl (fun _ _ _ h => h) ?_ ; simp only [Act.put, List.setIfInBounds_toArray, List.set_cons_zero, List.set_cons_succ]) | (refine wpO_light (v := ?_) (only_moves r) rfl rfl (fun _ _ _ h => h) ?_ ?_ ; rotate_left ; (· (intro w' hR ; (first | have hcells := only_cellsD ((only_moves r).trans _ _ _ hacc hR) | skip) ; go_simp ; try with_reducible rfl)) ; simp only [Act.put, List.setIfInBounds_toArray, List.set_cons_zero, List.set_cons_succ]))
      refine wpO_heavy (only_moves r) rfl rfl rfl ?_
      go_simp
      refine ⟨only_of_later ((Below.refl _ _).alloc (Nat.le_refl _) _), ?_⟩
      have hal := (Below.refl Wc.heap.size Wc).alloc (Nat.le_refl _) (.cells #[.pointer (some ⟨g, 5, none⟩), .int .i64 (L.queries : Int), .int .u64 18446744069414584321] 69)
      have hrd := rd_three Wc (.pointer (some ⟨g, 5, none⟩)) (.int .i64 (L.queries : Int)) (.int .u64 18446744069414584321) 69
      replace hacc := (only_moves r).trans _ _ _ hacc (only_of_later hal)
      replace hown := own_below hown hal (Nat.le_refl _)
      replace hBw := below_chainB hBw hal (by have := hBw.size; omega)
      have hls : w.heap.size + 1 ≤ (Wc.alloc (.cells #[.pointer (some ⟨g, 5, none⟩), .int .i64 (L.queries : Int), .int .u64 18446744069414584321] 69)).heap.size := by have := hBw.size; omega
      revert hrd hacc hown hBw hls
      try simp only [Act.put, List.setIfInBounds_toArray, List.set_cons_zero, List.set_cons_succ]
      generalize Wc.alloc _ = We
      generalize Wc.heap.size = ge
      intro hrd hacc hown hBw hls
      refine wpO_heavy (only_moves r) rfl rfl rfl ?_
      refine wp_append_rd _ _ rfl el_part rfl hown rfl hrd (one_part _ _ _) (by have := H4.out; have := HQ.out; have := EK.out; omega) hls ?_
      intro v' wn hown' hgrow hblk
      refine ⟨hgrow, ?_⟩
      replace hacc := (only_moves r).trans _ _ _ hacc hgrow
      replace hBw := hBw.trans (below_of_grown hgrow (w.heap.size + 1) hls (fun z hz => by have hz2 : r = z := Option.some.inj hz; omega))
      try simp only [Act.put, List.setIfInBounds_toArray, List.set_cons_zero, List.set_cons_succ]
      repeat (first | (refine wpO_skip (only_moves r) rfl rfl (fun _ _ _ h => h) ?_ ; simp only [Act.put, List.setIfInBounds_toArray, List.set_cons_zero, List.set_cons_succ]) | (refine wpO_light (v := ?_) (only_moves r) rfl rfl (fun _ _ _ h => h) ?_ ?_ ; rotate_left ; (· (intro w' hR ; (first | have hcells := only_cellsD ((only_moves r).trans _ _ _ hacc hR) | skip) ; go_simp ; try with_reducible rfl)) ; simp only [Act.put, List.setIfInBounds_toArray, List.set_cons_zero, List.set_cons_succ]))
      refine wpO_done ?_
      obtain ⟨PRE, hPRE⟩ : ∃ PRE, PRE = parts3 L g ++ partsC b4 q4 L.queries T3 L.p ++ [(⟨⟨g, 5, none⟩, L.queries, bigP⟩ : PartR)] := ⟨_, rfl⟩
      have hownS : wn.ownsRow (w.heap.size + 1) 69 3 v' (3 + k + 1) (pcs PRE) := by rw [hPRE, pcs_append]; exact hown'
      have HPRE := Lib.hid hPRE
      clear hown hown' hacc hgrow hblk hrd hls c0 cg n1 n2 l0 lg kl' kg' hPRE
      have kl2 := kl.below hBw (by omega)
      have kg2 := kg0.below hBw (by omega)
      have c0 := kl2.cell
      have cg := kg2.cell
      go_wp2_with fail
      go_loopw [5, 95] (fun v i wr => ∃ k2 : Nat, k2 ≤ S.n6 ∧ i = .int .i64 (k2 : Int) ∧ wr.ownsRow (w.heap.size + 1) 69 3 v (3 + k + 1 + k2) (pcs (PRE ++ partsC b6 q6 k2 j bigP)) ∧ Below (w.heap.size + 1) w2 wr) (fun _ i _ => S.n6 - (intOf i).toNat)
      case atStart => exact ⟨0, Nat.zero_le _, rfl, by simpa [partsC] using hownS, hBw⟩
      case round =>
        clear hownS c0 cg hBw kl2 kg2
        obtain ⟨k2, hk2, rfl, hown, hBw⟩ := hrel
        clear hr1 hr2
        obtain ⟨r, cr2, rfl, hr1, hr2⟩ := own_nonnil hown (by omega)
        have kl' := kl.below hBw (by omega)
        have kg' := kg0.below hBw (by omega)
        have c0 := kl'.cell
        have cg := kg'.cell
        have l0 := kl'.lt
        have lg := kg'.lt
        have n1 : w.heap.size ≠ r := by omega
        have n2 : g ≠ r := by omega
        by_cases hlt2 : k2 < S.n6
        · have g1 : (0 : Int) ≤ (k2 : Int) := by omega
          have g2 : (k2 : Int) < (S.n6 : Int) := by omega
          go_wp2_with fail
          refine wpO_begin (Only r) [8, 10, 11] [0, 1, 2, 3, 4, 5, 6, 7, 8, 9, 10, 11, 12] (by kernel_rfl) (by kernel_rfl) ?_
          refine wpO_startK (only_moves r) ?_
          intro Wc HWc hacc
          replace hown := own_hid HWc hown
          replace hBw := below_hid HWc hBw
          clear HWc
          repeat (first | (refine wpO_skip (only_moves r) rfl rfl (fun _ _ _ h => h) ?_ ; simp only [Act.put, List.setIfInBounds_toArray, List.set_cons_zero, List.set_cons_succ]) | (refine wpO_light (v := ?_) (only_moves r) rfl rfl (fun _ _ _ h => h) ?_ ?_ ; rotate_left ; (· (intro w' hR ; (first | have hcells := only_cellsD ((only_moves r).trans _ _ _ hacc hR) | skip) ; go_simp ; try with_reducible rfl)) ; simp only [Act.put, List.setIfInBounds_toArray, List.set_cons_zero, List.set_cons_succ]))
          refine wpO_call (only_moves r) rfl rfl rfl (fun _ => by go_simp <;> rfl) ((HLv.out _).mono ?_)
          rintro e w4 ⟨rfl, hb4⟩
          refine ⟨_, rfl, only_of_later hb4, ?_⟩
          replace hacc := (only_moves r).trans _ _ _ hacc (only_of_later hb4)
          simp only [Act.put, List.setIfInBounds_toArray, List.set_cons_zero, List.set_cons_succ]
          replace hown := own_below hown hb4 (Nat.le_refl _)
          have hls4 : w.heap.size + 1 ≤ Wc.heap.size := by have := hBw.size; omega
          replace hBw := below_chainB hBw hb4 hls4
          clear hb4 hls4
          repeat (first | (refine wpO_skip (only_moves r) rfl rfl (fun _ _ _ h => h) ?_ ; simp only [Act.put, List.setIfInBounds_toArray, List.set_cons_zero, List.set_cons_succ]) | (refine wpO_light (v := ?_) (only_moves r) rfl rfl (fun _ _ _ h => h) ?_ ?_ ; rotate_left ; (· (intro w' hR ; (first | have hcells := only_cellsD ((only_moves r).trans _ _ _ hacc hR) | skip) ; go_simp ; try with_reducible rfl)) ; simp only [Act.put, List.setIfInBounds_toArray, List.set_cons_zero, List.set_cons_succ]))
          refine wpO_heavy (only_moves r) rfl rfl rfl ?_
          go_simp
          refine ⟨only_of_later ((Below.refl _ _).alloc (Nat.le_refl _) _), ?_⟩
          have hal := (Below.refl w4.heap.size w4).alloc (Nat.le_refl _) (.cells #[.pointer (some ⟨b6, q6 + k2, none⟩), .int .i64 (j : Int), .int .u64 18446744069414584321] 69)
          have hrd := rd_three w4 (.pointer (some ⟨b6, q6 + k2, none⟩)) (.int .i64 (j : Int)) (.int .u64 18446744069414584321) 69
          replace hacc := (only_moves r).trans _ _ _ hacc (only_of_later hal)
          replace hown := own_below hown hal (Nat.le_refl _)
          replace hBw := below_chainB hBw hal (by have := hBw.size; omega)
          have hls : w.heap.size + 1 ≤ (w4.alloc (.cells #[.pointer (some ⟨b6, q6 + k2, none⟩), .int .i64 (j : Int), .int .u64 18446744069414584321] 69)).heap.size := by have := hBw.size; omega
          revert hrd hacc hown hBw hls
          try simp only [Act.put, List.setIfInBounds_toArray, List.set_cons_zero, List.set_cons_succ]
          generalize w4.alloc _ = We
          generalize w4.heap.size = ge
          intro hrd hacc hown hBw hls
          refine wpO_heavy (only_moves r) rfl rfl rfl ?_
          refine wp_append_rd _ _ rfl el_part rfl hown rfl hrd (one_part _ _ _) (by have := H4.out; have := HQ.out; have := EK.out; have := H6.out; omega) hls ?_
          intro v' wn hown' hgrow hblk
          refine ⟨hgrow, ?_⟩
          replace hacc := (only_moves r).trans _ _ _ hacc hgrow
          replace hBw := hBw.trans (below_of_grown hgrow (w.heap.size + 1) hls (fun z hz => by have hz2 : r = z := Option.some.inj hz; omega))
          try simp only [Act.put, List.setIfInBounds_toArray, List.set_cons_zero, List.set_cons_succ]
          repeat (first | (refine wpO_skip (only_moves r) rfl rfl (fun _ _ _ h => h) ?_ ; simp only [Act.put, List.setIfInBounds_toArray, List.set_cons_zero, List.set_cons_succ]) | (refine wpO_light (v := ?_) (only_moves r) rfl rfl (fun _ _ _ h => h) ?_ ?_ ; rotate_left ; (· (intro w' hR ; (first | have hcells := only_cellsD ((only_moves r).trans _ _ _ hacc hR) | skip) ; go_simp ; try with_reducible rfl)) ; simp only [Act.put, List.setIfInBounds_toArray, List.set_cons_zero, List.set_cons_succ]))
          refine wpO_done ?_
          go_wp2
          go_roundw
          case rel =>
            refine ⟨k2 + 1, by omega, by go_num, ?_, hBw⟩
            rw [partsC_succ, ← List.append_assoc, pcs_append]
            exact hown'
          case measure => simp [intOf]; omega
        · have ek2 : k2 = S.n6 := by omega
          have HPP : Hid (PRE ++ partsC b6 q6 k2 j bigP = parts3 L g ++ partsC b4 q4 L.queries T3 L.p ++ [(⟨⟨g, 5, none⟩, L.queries, bigP⟩ : PartR)] ++ partsC b6 q6 L.queries j bigP) := by rw [ek2, H6.out, HPRE.out]; rfl
          rw [HPP.out] at hown
          clear HPP ek2
          go_wp2
          go_ret
          exact ⟨_, _, rfl, own_base hown (by omega), hb0.trans (hBw.mono (by omega))⟩
end Go.Proofs.Ytkaecidnkkcbaaa

