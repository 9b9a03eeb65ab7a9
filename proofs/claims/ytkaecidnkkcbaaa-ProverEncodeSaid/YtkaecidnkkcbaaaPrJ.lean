/-
  ref27.Size, Numbers; ref10.Same.
-/
import Derived.Test.YtkaecidnkkcbaaaPrI
import Derived.Test.YtkaecidnkkcbaaaVal
namespace Go.Proofs.Ytkaecidnkkcbaaa
open Go.RowKit

def numsOf (P : ProofR) : List Nat := [P.root] ++ P.code ++ P.linear ++ P.quad ++ P.cols.flatten ++ P.salts ++ P.paths.flatten
theorem own_one (w : World) (base : Nat) (x : Value) (hb : base ≤ w.heap.size) : (w.alloc (.cells #[x] 22)).ownsRow base 22 1 (.slice (some ⟨w.heap.size, 0, none⟩) 1 1) 1 [x] :=
  ⟨rfl, .inr ⟨w.heap.size, 1, _, rfl, hb, heap_alloc_new w _, by omega, by simp [maxLen], rfl, rfl⟩⟩
theorem own_grow {W W' : World} {B : Nat} {e : TypeId} {size : Nat} {v : Value} {n : Nat} {xs : List Value} (h : W.ownsRow B e size v n xs) (hg : W.grownBy W' v.ownBlock) (hB : B ≤ W.heap.size) : Below B W W' :=
  below_of_grown hg B hB fun g e => (h.lt g e).1
theorem flat_take (ls : List (List Nat)) (k : Nat) (h : k < ls.length) : (ls.take (k + 1)).flatten = (ls.take k).flatten ++ ls[k] := by
  rw [List.take_succ_eq_append_getElem h, List.flatten_append]
  simp
theorem flat_le (ls : List (List Nat)) (k : Nat) : (ls.take k).flatten.length ≤ ls.flatten.length := by
  have : (ls.take k).flatten ++ (ls.drop k).flatten = ls.flatten := by rw [← List.flatten_append, List.take_append_drop]
  rw [← this, List.length_append]
  omega

set_option maxRecDepth 100000 in
set_option maxHeartbeats 1000000 in
theorem same10_any (A B : Option Addr) (n c m d : Nat) (l r : List Nat) (w : World) (hl : RWd w [.slice A n c] l) (hr : RWd w [.slice B m d] r) :
    Calls Try.prog 33 #[.slice A n c, .slice B m d] w fun e w' => e = .returned (.bool (decide (l = r))) ∧ ∃ k, w' = w.drewN k := by
  obtain ⟨rfl, h1, h2, -, hrd⟩ := word_at hl
  obtain ⟨rfl, h3, h4, -, hrr⟩ := word_at hr
  have gm := max_int h1 h2
  have gr := max_int h3 h4
  clear hl hr h1 h2 h3 h4
  by_cases z : l.length = r.length
  rotate_left
  · have d1 : ((l.length : Int) != (r.length : Int)) = true := by rw [bne_iff_ne]; omega
    have HZ := Lib.hid (show decide (l = r) = false from decide_eq_false fun e => z (by rw [e]))
    clear z hrd hrr
    go_enter Try.func33, Try.ntmps33
    go_wp2
    go_ret
    exact ⟨by rw [HZ.out]; rfl, 0, rfl⟩
  have d1 : ((l.length : Int) != (r.length : Int)) = false := by rw [bne_eq_false_iff_eq]; omega
  have HE := Lib.hid z
  clear z
  go_enter Try.func33, Try.ntmps33
  go_wp2_with fail
  go_loopw [5] (fun i wr => ∃ j kk : Nat, j ≤ l.length ∧ i = .int .i64 (j : Int) ∧ wr = w.drewN kk ∧ Hid (∀ k < j, l.getD k 0 = r.getD k 0)) (fun i _ => l.length - (intOf i).toNat)
  case atStart => exact ⟨0, 0, Nat.zero_le _, rfl, rfl, fun k hk => by omega⟩
  case round =>
    obtain ⟨j, kk, hj, rfl, rfl, HB⟩ := hrel
    by_cases hlt : j < l.length
    · have hlt2 : j < r.length := by rw [← HE.out]; exact hlt
      obtain ⟨b, q, rfl, hbl, hc⟩ := word_get hrd hlt
      obtain ⟨b', q', rfl, hbl', hc'⟩ := word_get hrr hlt2
      have HL := Lib.hid hlt
      have HL2 := Lib.hid hlt2
      have g1 : (0 : Int) ≤ (j : Int) := by omega
      have g2 : (j : Int) < (l.length : Int) := by omega
      have g3 : (j : Int) < (r.length : Int) := by omega
      revert hc hc'
      generalize hy : l.getD j 0 = y
      generalize hz : r.getD j 0 = z
      intro hc hc'
      have HY := Lib.hid hy
      have HZ := Lib.hid hz
      clear hy hz hrd hrr
      by_cases e : y = z
      · have d2 : ((y : Int) != (z : Int)) = false := by rw [bne_eq_false_iff_eq]; omega
        have HYZ := Lib.hid e
        clear e
        go_wp2_with fail
        go_quiet (fail)
        go_wp2
        go_roundw
        case rel =>
          refine ⟨j + 1, _, by omega, by go_num, rfl, fun k hk => ?_⟩
          rcases Nat.lt_or_ge k j with h5 | h5
          · exact HB.out k h5
          · have e : k = j := by omega
            rw [e, HY.out, HZ.out, HYZ.out]
        case measure => simp [intOf]; omega
      · have d2 : ((y : Int) != (z : Int)) = true := by rw [bne_iff_ne]; omega
        have HF := Lib.hid (show decide (l = r) = false from decide_eq_false fun h => e (by rw [← HY.out, ← HZ.out, h]))
        clear e
        go_wp2_with fail
        go_quiet (fail)
        go_wp2
        go_ret
        exact ⟨by rw [HF.out]; rfl, _, World.drewN_drewN ..⟩
    · have e : j = l.length := by omega
      have HF := Lib.hid (show decide (l = r) = true from decide_eq_true (List.ext_getElem HE.out fun i h1 h2 => by
        have := HB.out i (by omega)
        simpa [List.getD_eq_getElem?_getD, List.getElem?_eq_getElem h1, List.getElem?_eq_getElem h2] using this))
      clear hrd hrr
      go_wp2
      go_ret
      exact ⟨by rw [HF.out]; rfl, _, rfl⟩

set_option maxRecDepth 100000 in
set_option maxHeartbeats 1000000 in
theorem size27_any (L : LayR) (j : Nat) (w : World) (hL : LayOk L) (hn : L.n = 2 ^ j) (hj : j ≤ 10) :
    Calls Try.prog 16 #[.agg (layCs L)] w fun e w' => e = .returned (.int .i64 (szOf L j : Nat)) ∧ Below w.heap.size w w' := by
  have HLen := Lib.hid (fun w => lengths_any L w hL)
  have HD := Lib.hid (fun w => depth_any L.n j w hn hj)
  have HT := Lib.hid (fun w => rTotal_any L.p L.block L.queries L.k L.n L.secret L.rows L.a L.b L.b L.b w hL.a hL.b hL.b hL.b)
  have h1 := hL.b1
  have h2 := hL.b2
  have h3 := hL.q1
  have h4 := hL.q2
  have h5 := hL.k
  have h6 := hL.a
  have h7 := hL.b
  have hS : szOf L j = 8 * (1 + (L.k + (L.k + L.block - 1) + (2 * L.k - 1)) + L.queries * (L.a + L.b + L.b + L.b + 3 + 1 + j)) := rfl
  have hT : L.a + L.b + L.b + L.b ≤ 400000 := by omega
  obtain ⟨T, hTT⟩ : ∃ T, T = L.a + L.b + L.b + L.b := ⟨_, rfl⟩
  rw [← hTT] at HT hS hT
  obtain ⟨T2, hT2⟩ : ∃ T2, T2 = T + 3 + 1 + j := ⟨_, rfl⟩
  rw [← hT2] at hS
  have hM : L.queries * T2 ≤ 64 * T2 := Nat.mul_le_mul_right _ h4
  obtain ⟨M, hMM⟩ : ∃ M, M = L.queries * T2 := ⟨_, rfl⟩
  rw [← hMM] at hS hM
  obtain ⟨Z, hZ⟩ : ∃ Z, Z = szOf L j := ⟨_, rfl⟩
  rw [← hZ] at hS
  rw [← hZ]
  obtain ⟨x, hx⟩ : ∃ x, x = L.k + L.block - 1 := ⟨_, rfl⟩
  obtain ⟨y, hy⟩ : ∃ y, y = 2 * L.k - 1 := ⟨_, rfl⟩
  rw [← hx, ← hy] at HLen
  rw [← hx, ← hy] at hS
  obtain ⟨X1, hX1⟩ : ∃ X1, X1 = 1 + L.k := ⟨_, rfl⟩
  obtain ⟨X2, hX2⟩ : ∃ X2, X2 = X1 + x := ⟨_, rfl⟩
  obtain ⟨X3, hX3⟩ : ∃ X3, X3 = X2 + y := ⟨_, rfl⟩
  obtain ⟨X4, hX4⟩ : ∃ X4, X4 = X3 + M := ⟨_, rfl⟩
  obtain ⟨T3, hT3⟩ : ∃ T3, T3 = T + 3 := ⟨_, rfl⟩
  obtain ⟨T4, hT4⟩ : ∃ T4, T4 = T3 + 1 := ⟨_, rfl⟩
  have u1 : (1 : Int) + (L.k : Int) = (X1 : Int) := by omega
  have v1 : IntKind.i64.wrap (X1 : Int) = (X1 : Int) := wr_i64 _ (by omega) (by omega)
  have u2 : (X1 : Int) + (x : Int) = (X2 : Int) := by omega
  have v2 : IntKind.i64.wrap (X2 : Int) = (X2 : Int) := wr_i64 _ (by omega) (by omega)
  have u3 : (X2 : Int) + (y : Int) = (X3 : Int) := by omega
  have v3 : IntKind.i64.wrap (X3 : Int) = (X3 : Int) := wr_i64 _ (by omega) (by omega)
  have u4 : (X3 : Int) + (M : Int) = (X4 : Int) := by omega
  have v4 : IntKind.i64.wrap (X4 : Int) = (X4 : Int) := wr_i64 _ (by omega) (by omega)
  have u5 : (T : Int) + 3 = (T3 : Int) := by omega
  have v5 : IntKind.i64.wrap (T3 : Int) = (T3 : Int) := wr_i64 _ (by omega) (by omega)
  have u6 : (T3 : Int) + 1 = (T4 : Int) := by omega
  have v6 : IntKind.i64.wrap (T4 : Int) = (T4 : Int) := wr_i64 _ (by omega) (by omega)
  have u7 : (T4 : Int) + (j : Int) = (T2 : Int) := by omega
  have v7 : IntKind.i64.wrap (T2 : Int) = (T2 : Int) := wr_i64 _ (by omega) (by omega)
  have u8 : (L.queries : Int) * (T2 : Int) = (M : Int) := by rw [hMM]; exact (Int.natCast_mul _ _).symm
  have v8 : IntKind.i64.wrap (M : Int) = (M : Int) := wr_i64 _ (by omega) (by omega)
  have u9 : (8 : Int) * (X4 : Int) = (Z : Int) := by omega
  have v9 : IntKind.i64.wrap (Z : Int) = (Z : Int) := wr_i64 _ (by omega) (by omega)
  clear h1 h2 h3 h4 h5 h6 h7 hS hT hTT hT2 hM hMM hZ hx hy hX1 hX2 hX3 hX4 hT3 hT4 hL hn hj
  unfold layCs at HLen ⊢
  go_enter Try.func16, Try.ntmps16
  go_wp2_with fail
  refine (HLen.out _).mono ?_
  rintro e w1 ⟨rfl, hb⟩
  have k1 := (Blk.new w 38 #[.int .u64 (L.p : Int), .int .i64 (L.block : Int), .int .i64 (L.queries : Int), .int .i64 (L.k : Int), .int .i64 (L.n : Int), .int .i64 (L.secret : Int), .int .i64 (L.rows : Int), .int .i64 (L.a : Int), .int .i64 (L.b : Int), .int .i64 (L.b : Int), .int .i64 (L.b : Int)]).below hb (by simp)
  have hbw := below_chain ((Below.refl _ w).alloc (Nat.le_refl _) _) hb
  have kl := k1.alloc (.cells #[.int .i64 (L.k : Int), .int .i64 (x : Int), .int .i64 (y : Int)] 71)
  have k3 := Blk.new w1 71 #[.int .i64 (L.k : Int), .int .i64 (x : Int), .int .i64 (y : Int)]
  have hbl := hbw.alloc hbw.size (.cells #[.int .i64 (L.k : Int), .int .i64 (x : Int), .int .i64 (y : Int)] 71)
  clear hb k1 hbw
  go_wp2_with fail
  revert kl k3 hbl
  generalize w1.alloc _ = w2
  generalize w1.heap.size = g
  intro kl k3 hbl
  have c1 := kl.cell
  have c3 := k3.cell
  have l1 := kl.lt
  have l3 := k3.lt
  refine wpO_begin (Later) [12, 17] [0, 1, 2, 3, 4, 5, 6, 7, 8, 9, 10, 11, 15, 16, 12, 13, 14, 17, 18, 19, 20, 21, 22] (by kernel_rfl) (by kernel_rfl) ?_
  refine wpO_start (later_moves) ?_
  intro Wc hacc
  repeat (first | (refine wpO_skip (later_moves) rfl rfl (fun _ _ _ h => h) ?_ ; simp only [Act.put, List.setIfInBounds_toArray, List.set_cons_zero, List.set_cons_succ]) | (refine wpO_light (v := ?_) (later_moves) rfl rfl (fun _ _ _ h => h) ?_ ?_ ; rotate_left ; (· (intro w' hR ; (first | have hcells := later_cellsD ((later_moves).trans _ _ _ hacc hR) | skip) ; go_simp ; try with_reducible rfl)) ; simp only [Act.put, List.setIfInBounds_toArray, List.set_cons_zero, List.set_cons_succ]))
  refine wpO_call (later_moves) rfl rfl rfl (fun _ => by go_simp <;> rfl) ((HT.out _).mono ?_)
  rintro e w4 ⟨rfl, hb4⟩
  refine ⟨_, rfl, hb4, ?_⟩
  replace hacc := (later_moves).trans _ _ _ hacc (hb4)
  simp only [Act.put, List.setIfInBounds_toArray, List.set_cons_zero, List.set_cons_succ]
  repeat (first | (refine wpO_skip (later_moves) rfl rfl (fun _ _ _ h => h) ?_ ; simp only [Act.put, List.setIfInBounds_toArray, List.set_cons_zero, List.set_cons_succ]) | (refine wpO_light (v := ?_) (later_moves) rfl rfl (fun _ _ _ h => h) ?_ ?_ ; rotate_left ; (· (intro w' hR ; (first | have hcells := later_cellsD ((later_moves).trans _ _ _ hacc hR) | skip) ; go_simp ; try with_reducible rfl)) ; simp only [Act.put, List.setIfInBounds_toArray, List.set_cons_zero, List.set_cons_succ]))
  refine wpO_call (later_moves) rfl rfl rfl (fun _ => by go_simp <;> rfl) ((HD.out _).mono ?_)
  rintro e w5 ⟨rfl, rfl⟩
  refine ⟨_, rfl, later_moves.refl _, ?_⟩
  replace hacc := (later_moves).trans _ _ _ hacc (later_moves.refl _)
  simp only [Act.put, List.setIfInBounds_toArray, List.set_cons_zero, List.set_cons_succ]
  repeat (first | (refine wpO_skip (later_moves) rfl rfl (fun _ _ _ h => h) ?_ ; simp only [Act.put, List.setIfInBounds_toArray, List.set_cons_zero, List.set_cons_succ]) | (refine wpO_light (v := ?_) (later_moves) rfl rfl (fun _ _ _ h => h) ?_ ?_ ; rotate_left ; (· (intro w' hR ; (first | have hcells := later_cellsD ((later_moves).trans _ _ _ hacc hR) | skip) ; go_simp ; try with_reducible rfl)) ; simp only [Act.put, List.setIfInBounds_toArray, List.set_cons_zero, List.set_cons_succ]))
  refine wpO_done ?_
  go_wp2
  go_ret
  exact ⟨rfl, below_chain hbl.drew hacc⟩

theorem own_app {w : World} {B m : Nat} {v : Value} {a b c : List Nat} (h : w.ownsRow B 22 1 v m (U64 a ++ U64 b)) (e : a ++ b = c) : w.ownsRow B 22 1 v m (U64 c) := by
  rw [← e, U64_append]
  exact h

set_option linter.unusedSimpArgs false in
set_option maxRecDepth 100000 in
set_option maxHeartbeats 2000000 in
theorem numbers_any (P : ProofR) (S : PS) (w : World) (h : PrIn w P S) (hlen : (numsOf P).length ≤ 1000000) :
    Calls Try.prog 34 #[.agg (prCs P S)] w fun e w' => ∃ v n, e = .returned v ∧ w'.ownsRow w.heap.size 22 1 v n (U64 (numsOf P)) ∧ Below w.heap.size w w' := by
  have HT := Lib.hid hlen
  have E4 := Lib.hid (lists_open h.cols).1
  have E6 := Lib.hid (lists_open h.paths).1
  have m4 := max_int (lists_open h.cols).2.1 (lists_open h.cols).2.2.1
  have m6 := max_int (lists_open h.paths).2.1 (lists_open h.paths).2.2.1
  clear hlen
  have hbw : Below w.heap.size w (w.alloc (.cells (prCs P S) 35)) := (Below.refl _ _).alloc (Nat.le_refl _) _
  have kb := Blk.new w 35 (prCs P S)
  unfold prCs at *
  go_enter Try.func34, Try.ntmps34
  go_upto_region 1 with fail
  revert hbw kb
  generalize w.alloc _ = w0
  intro hbw kb
  have cb := kb.cell
  have hls : w.heap.size + 1 ≤ w0.heap.size := kb.lt
  have hown := own_one w0 (w.heap.size + 1) (.int .u64 (P.root : Int)) hls
  replace hbw := hbw.alloc hbw.size (.cells #[.int .u64 (P.root : Int)] 22)
  replace kb := kb.alloc (.cells #[.int .u64 (P.root : Int)] 22)
  go_upto_region 2 with fail
  clear hls cb
  revert hown hbw kb
  generalize w0.alloc _ = w1
  generalize w0.heap.size = g0
  intro hown hbw kb
  replace hown : w1.ownsRow (w.heap.size + 1) 22 1 _ _ (U64 [P.root]) := hown
  have cb := kb.cell
  go_wp2_with (at_builtin; refine wpl_append rfl _ _ rfl el_u64 rfl hown rfl (word_at (prIn_below h hbw).code).2.2.2.2 (one_U64 _) ?_ ?_ ?_)
  · have e1 := hown.1; have e2 := (word_at h.code).1; have e3 := HT.out; rw [len_U64] at e1; simp only [numsOf, List.length_append, List.length_cons, List.length_nil] at e3; simp only [List.length_append, List.length_cons, List.length_nil] at e1; omega
  · have := hbw.size; have := kb.lt; omega
  intro v' wn hown' hgrow hblk
  have hB := own_grow hown hgrow (by have := kb.lt; omega)
  replace hbw := hbw.trans (hB.mono (by omega))
  replace kb := kb.below hB (by omega)
  replace hown : wn.ownsRow (w.heap.size + 1) 22 1 v' _ (U64 ([P.root] ++ P.code)) := own_app hown' (by simp)
  clear hown'
  clear hgrow hblk hB cb
  have cb := kb.cell
  go_wp2_with (at_builtin; refine wpl_append rfl _ _ rfl el_u64 rfl hown rfl (word_at (prIn_below h hbw).linear).2.2.2.2 (one_U64 _) ?_ ?_ ?_)
  · have e1 := hown.1; have e2 := (word_at h.linear).1; have e3 := HT.out; rw [len_U64] at e1; simp only [numsOf, List.length_append, List.length_cons, List.length_nil] at e3; simp only [List.length_append, List.length_cons, List.length_nil] at e1; omega
  · have := hbw.size; have := kb.lt; omega
  intro v' wn hown' hgrow hblk
  have hB := own_grow hown hgrow (by have := kb.lt; omega)
  replace hbw := hbw.trans (hB.mono (by omega))
  replace kb := kb.below hB (by omega)
  replace hown : wn.ownsRow (w.heap.size + 1) 22 1 v' _ (U64 ([P.root] ++ P.code ++ P.linear)) := own_app hown' (by simp)
  clear hown'
  clear hgrow hblk hB cb
  have cb := kb.cell
  go_wp2_with (at_builtin; refine wpl_append rfl _ _ rfl el_u64 rfl hown rfl (word_at (prIn_below h hbw).quad).2.2.2.2 (one_U64 _) ?_ ?_ ?_)
  · have e1 := hown.1; have e2 := (word_at h.quad).1; have e3 := HT.out; rw [len_U64] at e1; simp only [numsOf, List.length_append, List.length_cons, List.length_nil] at e3; simp only [List.length_append, List.length_cons, List.length_nil] at e1; omega
  · have := hbw.size; have := kb.lt; omega
  intro v' wn hown' hgrow hblk
  have hB := own_grow hown hgrow (by have := kb.lt; omega)
  replace hbw := hbw.trans (hB.mono (by omega))
  replace kb := kb.below hB (by omega)
  replace hown : wn.ownsRow (w.heap.size + 1) 22 1 v' _ (U64 ([P.root] ++ P.code ++ P.linear ++ P.quad)) := own_app hown' (by simp)
  clear hown'
  clear hgrow hblk hB cb
  have cb := kb.cell
  obtain ⟨PRE1, hPRE⟩ : ∃ X, X = [P.root] ++ P.code ++ P.linear ++ P.quad := ⟨_, rfl⟩
  rw [← hPRE] at hown
  have HPRE1 := Lib.hid hPRE
  clear hPRE
  go_wp2_with fail
  go_loopw [3, 4] (fun v i wr => ∃ k m : Nat, k ≤ S.n4 ∧ i = .int .i64 (k : Int) ∧ wr.ownsRow (w.heap.size + 1) 22 1 v m (U64 (PRE1 ++ (P.cols.take k).flatten)) ∧ Below w.heap.size w wr ∧ Blk wr w.heap.size 35 #[.int .u64 (P.root : Int), .slice S.A1 S.n1 S.c1, .slice S.A2 S.n2 S.c2, .slice S.A3 S.n3 S.c3, .slice S.A4 S.n4 S.c4, .slice S.A5 S.n5 S.c5, .slice S.A6 S.n6 S.c6]) (fun _ i _ => S.n4 - (intOf i).toNat)
  case atStart => exact ⟨0, _, Nat.zero_le _, rfl, by simpa using hown, hbw, kb⟩
  case round =>
    clear hown hbw kb cb
    obtain ⟨k, m, hk, rfl, hown, hbw, kb⟩ := hrel
    have cb := kb.cell
    obtain ⟨A0, c0, rfl, -⟩ := own_form hown
    by_cases hlt : k < S.n4
    · have hlt2 : k < P.cols.length := by rw [← E4.out]; exact hlt
      obtain ⟨b, q, A1, n1, c1, hA, hbl, hc, hr⟩ := lists_get (lists_open (prIn_below h hbw).cols).2.2.2 hlt2
      have HL := Lib.hid hlt
      have HL2 := Lib.hid hlt2
      have g1 : (0 : Int) ≤ (k : Int) := by omega
      have g2 : (k : Int) < (S.n4 : Int) := by omega
      rw [hA] at cb
      clear hA
      have HFL := Lib.hid (flat_take P.cols k hlt2)
      have hle := flat_le P.cols (k + 1)
      rw [HFL.out, List.length_append] at hle
      obtain ⟨en1, -, -, -, hrd⟩ := word_at hr
      have hbytes : (m + n1) * (8 + 1) ≤ 140737488355328 := by
        have e1 := hown.1
        have e3 := HT.out
        rw [len_U64] at e1
        have e4 := congrArg List.length HPRE1.out
        simp only [numsOf, List.length_append, List.length_cons, List.length_nil] at e3 e4
        simp only [List.length_append] at e1
        omega
      clear hle en1
      go_wp2_with (at_builtin; refine wpl_append rfl _ _ rfl el_u64 rfl hown rfl hrd (one_U64 _) hbytes ?_ ?_)
      · have := hbw.size; have := kb.lt; omega
      intro v' wn hown' hgrow hblk
      have hB := own_grow hown hgrow (by have := kb.lt; omega)
      replace hbw := hbw.trans (hB.mono (by omega))
      replace kb := kb.below hB (by omega)
      clear hgrow hblk hB cb hbytes hc
      go_wp2
      go_roundw
      case rel => exact ⟨k + 1, _, by omega, by go_num, own_app hown' (by rw [HFL.out, List.append_assoc]), hbw, kb⟩
      case measure => simp [intOf]; omega
    · have ek : k = P.cols.length := by rw [← E4.out]; omega
      rw [ek, List.take_length, HPRE1.out] at hown
      clear ek
      go_wp2_with (at_builtin; refine wpl_append rfl _ _ rfl el_u64 rfl hown rfl (word_at (prIn_below h hbw).salts).2.2.2.2 (one_U64 _) ?_ ?_ ?_)
      · have e1 := hown.1; have e2 := (word_at h.salts).1; have e3 := HT.out; rw [len_U64] at e1; simp only [numsOf, List.length_append, List.length_cons, List.length_nil] at e3; simp only [List.length_append, List.length_cons, List.length_nil] at e1; omega
      · have := hbw.size; have := kb.lt; omega
      intro v' wn hown' hgrow hblk
      have hB := own_grow hown hgrow (by have := kb.lt; omega)
      replace hbw := hbw.trans (hB.mono (by omega))
      replace kb := kb.below hB (by omega)
      replace hown : wn.ownsRow (w.heap.size + 1) 22 1 v' _ (U64 ([P.root] ++ P.code ++ P.linear ++ P.quad ++ P.cols.flatten ++ P.salts)) := own_app hown' (by simp)
      clear hown'
      clear hgrow hblk hB cb
      have cb := kb.cell
      obtain ⟨PRE2, hPRE⟩ : ∃ X, X = [P.root] ++ P.code ++ P.linear ++ P.quad ++ P.cols.flatten ++ P.salts := ⟨_, rfl⟩
      rw [← hPRE] at hown
      have HPRE2 := Lib.hid hPRE
      clear hPRE
      go_wp2_with fail
      go_loopw [3, 5] (fun v i wr => ∃ k m : Nat, k ≤ S.n6 ∧ i = .int .i64 (k : Int) ∧ wr.ownsRow (w.heap.size + 1) 22 1 v m (U64 (PRE2 ++ (P.paths.take k).flatten)) ∧ Below w.heap.size w wr ∧ Blk wr w.heap.size 35 #[.int .u64 (P.root : Int), .slice S.A1 S.n1 S.c1, .slice S.A2 S.n2 S.c2, .slice S.A3 S.n3 S.c3, .slice S.A4 S.n4 S.c4, .slice S.A5 S.n5 S.c5, .slice S.A6 S.n6 S.c6]) (fun _ i _ => S.n6 - (intOf i).toNat)
      case atStart => exact ⟨0, _, Nat.zero_le _, rfl, by simpa using hown, hbw, kb⟩
      case round =>
        clear hown hbw kb cb
        obtain ⟨k, m, hk, rfl, hown, hbw, kb⟩ := hrel
        have cb := kb.cell
        obtain ⟨A0, c0, rfl, -⟩ := own_form hown
        by_cases hlt : k < S.n6
        · have hlt2 : k < P.paths.length := by rw [← E6.out]; exact hlt
          obtain ⟨b, q, A1, n1, c1, hA, hbl, hc, hr⟩ := lists_get (lists_open (prIn_below h hbw).paths).2.2.2 hlt2
          have HL := Lib.hid hlt
          have HL2 := Lib.hid hlt2
          have g1 : (0 : Int) ≤ (k : Int) := by omega
          have g2 : (k : Int) < (S.n6 : Int) := by omega
          rw [hA] at cb
          clear hA
          have HFL := Lib.hid (flat_take P.paths k hlt2)
          have hle := flat_le P.paths (k + 1)
          rw [HFL.out, List.length_append] at hle
          obtain ⟨en1, -, -, -, hrd⟩ := word_at hr
          have hbytes : (m + n1) * (8 + 1) ≤ 140737488355328 := by
            have e1 := hown.1
            have e3 := HT.out
            rw [len_U64] at e1
            have e4 := congrArg List.length HPRE2.out
            simp only [numsOf, List.length_append, List.length_cons, List.length_nil] at e3 e4
            simp only [List.length_append] at e1
            omega
          clear hle en1
          go_wp2_with (at_builtin; refine wpl_append rfl _ _ rfl el_u64 rfl hown rfl hrd (one_U64 _) hbytes ?_ ?_)
          · have := hbw.size; have := kb.lt; omega
          intro v' wn hown' hgrow hblk
          have hB := own_grow hown hgrow (by have := kb.lt; omega)
          replace hbw := hbw.trans (hB.mono (by omega))
          replace kb := kb.below hB (by omega)
          clear hgrow hblk hB cb hbytes hc
          go_wp2
          go_roundw
          case rel => exact ⟨k + 1, _, by omega, by go_num, own_app hown' (by rw [HFL.out, List.append_assoc]), hbw, kb⟩
          case measure => simp [intOf]; omega
        · have ek : k = P.paths.length := by rw [← E6.out]; omega
          rw [ek, List.take_length, HPRE2.out] at hown
          clear ek
          go_wp2
          go_ret
          exact ⟨_, _, rfl, own_base ((show _ from hown)) (by omega), hbw⟩
end Go.Proofs.Ytkaecidnkkcbaaa

