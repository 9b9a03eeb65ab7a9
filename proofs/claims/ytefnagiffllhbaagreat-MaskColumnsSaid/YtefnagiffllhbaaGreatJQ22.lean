/-
  layout.validParams; layout.New.
-/
import Derived.Test.YtefnagiffllhbaaGreatJQ4
import Derived.Test.YtefnagiffllhbaaGreatJQ6
import Derived.Test.YtefnagiffllhbaaGreatJQ12
import Derived.Test.YtefnagiffllhbaaGreatJQ7

/- TabA -/
namespace Go.Proofs.YtefnagiffllhbaaGreat
open Go.RowKit

/-- The variable of the last term that was read. -/
def lastV (l : List (Int × Nat)) (j : Nat) : Int := if j = 0 then -1 else (l.getD (j - 1) (0, 0)).1
theorem linBad_last {p : Nat} {n : Int} {l : List (Int × Nat)} {j : Nat} (hb : ∀ k < j, linBad p n l k = false) :
    linBad p n l j = (decide ((l.getD j (0, 0)).1 ≤ lastV l j) || decide (n ≤ (l.getD j (0, 0)).1) || (l.getD j (0, 0)).2 == 0 || decide (p ≤ (l.getD j (0, 0)).2)) := by
  have h1 : -1 ≤ lastV l j := by
    unfold lastV
    split
    · omega
    · have h := hb (j - 1) (by omega)
      unfold linBad at h
      simp only [Bool.or_eq_false_iff, decide_eq_false_iff_not] at h
      omega
  unfold linBad
  have e : (decide ((l.getD j (0, 0)).1 < 0) || (decide (0 < j) && decide ((l.getD j (0, 0)).1 ≤ (l.getD (j - 1) (0, 0)).1))) = decide ((l.getD j (0, 0)).1 ≤ lastV l j) := by
    rw [Bool.eq_iff_iff]
    simp only [Bool.or_eq_true, Bool.and_eq_true, decide_eq_true_eq]
    unfold lastV at h1 ⊢
    split
    · omega
    · rename_i h0
      rw [if_neg h0] at h1
      omega
  rw [← e]
  cases decide ((l.getD j (0, 0)).1 < 0) <;> cases decide (n ≤ (l.getD j (0, 0)).1) <;> simp

set_option maxRecDepth 100000 in
set_option maxHeartbeats 1000000 in
theorem pLinear_any (p : Nat) (pub n : Int) (rows : Value) (A : Option Addr) (len c : Nat) (l : List (Int × Nat)) (w : World) (hl : RLin w [.slice A len c] l) (hs : slc rows) :
    Calls Tryz.prog 128 #[tabV p pub n rows, .slice A len c] w fun e w' => e = .returned (.bool (linOk p n l)) ∧ Below w.heap.size w w' := by
  obtain ⟨A', n', c', he, hlen, hnc, hmx, hrd⟩ := hl
  simp at he
  obtain ⟨rfl, rfl, rfl⟩ := he
  obtain ⟨As, ns, cs, rfl⟩ := hs
  subst hlen
  unfold tabV
  have kt := Blk.new w 25 #[.int .u64 (p : Int), .int .i64 pub, .int .i64 n, .slice As ns cs]
  have hb0 : Below w.heap.size w (w.alloc (.cells #[.int .u64 (p : Int), .int .i64 pub, .int .i64 n, .slice As ns cs] 25)) := (Below.refl _ _).alloc (Nat.le_refl _) _
  have g0 : (l.length : Int) ≤ 9223372036854775807 := by
    have h4 := hmx
    simp [maxLen] at h4
    omega
  go_enter Tryz.func128, Tryz.ntmps128
  go_wp2_with fail
  generalize w.alloc _ = w1 at kt hb0 ⊢
  go_loopw [5, 10] (fun u i wr => ∃ (j : Nat) (la : Int), j ≤ l.length ∧ i = .int .i64 (j : Int) ∧ u = .int .i64 la ∧ Hid (la = lastV l j) ∧ Blk wr w.heap.size 25 #[.int .u64 (p : Int), .int .i64 pub, .int .i64 n, .slice As ns cs] ∧ Below w.heap.size w wr ∧ Hid (∀ k < j, linBad p n l k = false))
    (fun _ i _ => l.length - (intOf i).toNat)
  case atStart => exact ⟨0, -1, Nat.zero_le _, rfl, rfl, rfl, kt, hb0, fun k hk => by omega⟩
  case round =>
    clear kt hb0
    obtain ⟨j, la, hj, rfl, rfl, HLA, kt, hb0, HB⟩ := hrel
    by_cases hlt : j < l.length
    · have HL := Lib.hid hlt
      obtain ⟨b, q, rfl⟩ := hrd.base (by omega) (by omega)
      have hrd' := hrd.below kept_RTerm hb0
      obtain ⟨c1, c2⟩ := RLin.at_ hrd' hlt
      have hbl := World.block_lt_of_cell? _ _ c1
      simp only at hbl
      have g1 : (0 : Int) ≤ (j : Int) := by omega
      have g2 : (j : Int) < (l.length : Int) := by omega
      have HD := Lib.hid (linBad_last HB.out)
      have HNX := Lib.hid (show (l.getD j (0, 0)).1 = lastV l (j + 1) by simp [lastV])
      rw [← HLA.out] at HD
      revert c1 c2 HD HNX
      generalize (l.getD j (0, 0)).1 = x
      generalize (l.getD j (0, 0)).2 = y
      intro c1 c2 HD HNX
      have ct := kt.cell
      have lt := kt.lt
      clear hrd hrd' HLA
      by_cases z1 : x ≤ la
      · have d1 := decide_eq_true z1
        go_wp2_with fail
        go_ret
        exact ⟨by rw [linOk_bad HL.out (HD.out.trans (by simp [d1]))]; rfl, hb0.alloc hb0.size _⟩
      · have d1 := decide_eq_false z1
        by_cases z2 : n ≤ x
        · have d2 := decide_eq_true z2
          go_wp2_with fail
          go_ret
          exact ⟨by rw [linOk_bad HL.out (HD.out.trans (by simp [d1, d2]))]; rfl, hb0.alloc hb0.size _⟩
        · have d2 := decide_eq_false z2
          by_cases z4 : y = 0
          · have HY := Lib.hid z4
            subst z4
            go_wp2_with fail
            go_ret
            exact ⟨by rw [linOk_bad HL.out (HD.out.trans (by simp [d1, d2]))]; rfl, hb0.alloc hb0.size _⟩
          · have d4 : ((y : Int) == 0) = false := by rw [beq_eq_false_iff_ne]; omega
            have d4' : (y == 0) = false := by rw [beq_eq_false_iff_ne]; exact z4
            by_cases z5 : p ≤ y
            · have d5 : decide ((p : Int) ≤ (y : Int)) = true := decide_eq_true (by omega)
              have d5' := decide_eq_true z5
              go_wp2_with fail
              go_ret
              exact ⟨by rw [linOk_bad HL.out (HD.out.trans (by simp [d1, d2, d4', d5']))]; rfl, hb0.alloc hb0.size _⟩
            · have d5 : decide ((p : Int) ≤ (y : Int)) = false := decide_eq_false (by omega)
              have d5' := decide_eq_false z5
              have HE := Lib.hid (show linBad p n l j = false from HD.out.trans (by simp [d1, d2, d4', d5']))
              clear d4' d5'
              go_wp2_with fail
              go_roundw
              case rel => exact ⟨j + 1, x, by omega, by go_num, rfl, HNX.out, kt.alloc _, hb0.alloc hb0.size _, ext_false HB.out HE.out⟩
              case measure => simp [intOf]; omega
    · obtain rfl : l.length = j := by omega
      go_wp2
      go_ret
      exact ⟨by rw [linOk_good HB.out]; rfl, hb0⟩
end Go.Proofs.YtefnagiffllhbaaGreat

/- TabB -/
namespace Go.Proofs.YtefnagiffllhbaaGreat
open Go.RowKit

set_option maxRecDepth 100000 in
set_option maxHeartbeats 1000000 in
theorem pRow_any (p : Nat) (pub vars : Int) (rows : Value) (r : RowR) (x y z : Value) (w : World) (hx : RLin w [x] r.a) (hy : RLin w [y] r.b) (hz : RLin w [z] r.c) (hs : slc rows) :
    Calls Tryz.prog 116 #[tabV p pub vars rows, .agg #[x, y, z]] w fun e w' => e = .returned (.bool (rowOk p vars r)) ∧ Below w.heap.size w w' := by
  obtain ⟨A1, n1, c1, rfl⟩ := RSl.slc hx
  obtain ⟨A2, n2, c2, rfl⟩ := RSl.slc hy
  obtain ⟨A3, n3, c3, rfl⟩ := RSl.slc hz
  have HX := Lib.hid (fun w' (hb : Below w.heap.size w w') => pLinear_any p pub vars rows _ _ _ r.a w' (kept_RLin _ _ _ _ hb hx) hs)
  have HY := Lib.hid (fun w' (hb : Below w.heap.size w w') => pLinear_any p pub vars rows _ _ _ r.b w' (kept_RLin _ _ _ _ hb hy) hs)
  have HZ := Lib.hid (fun w' (hb : Below w.heap.size w w') => pLinear_any p pub vars rows _ _ _ r.c w' (kept_RLin _ _ _ _ hb hz) hs)
  obtain ⟨As, ns, cs, rfl⟩ := hs
  have hR : rowOk p vars r = (linOk p vars r.a && linOk p vars r.b && linOk p vars r.c) := rfl
  rw [hR]
  clear hR hx hy hz
  generalize linOk p vars r.a = b1 at *
  generalize linOk p vars r.b = b2 at *
  generalize linOk p vars r.c = b3 at *
  unfold tabV at *
  obtain ⟨kt, kr, hb0, -⟩ := boxes2 w 25 75 #[.int .u64 (p : Int), .int .i64 pub, .int .i64 vars, .slice As ns cs] #[.slice A1 n1 c1, .slice A2 n2 c2, .slice A3 n3 c3]
  go_enter Tryz.func116, Tryz.ntmps116
  go_wp2_with fail
  generalize (w.alloc _).alloc _ = w0 at kt kr hb0 ⊢
  refine (HX.out _ hb0).mono ?_
  rintro e w1 ⟨rfl, hb1⟩
  replace kt := kt.below hb1 kt.lt
  replace kr := kr.below hb1 kr.lt
  replace hb0 := below_chain hb0 hb1
  clear hb1
  have ct := kt.cell
  have cr := kr.cell
  cases b1
  · go_wp2
    go_ret
    exact ⟨rfl, hb0⟩
  go_wp2_with fail
  refine (HY.out _ hb0).mono ?_
  rintro e w2 ⟨rfl, hb2⟩
  replace kt := kt.below hb2 kt.lt
  replace kr := kr.below hb2 kr.lt
  replace hb0 := below_chain hb0 hb2
  clear hb2 ct cr
  have ct := kt.cell
  have cr := kr.cell
  cases b2
  · go_wp2
    go_ret
    exact ⟨rfl, hb0⟩
  go_wp2_with fail
  refine (HZ.out _ hb0).mono ?_
  rintro e w3 ⟨rfl, hb3⟩
  go_wp2
  go_ret
  exact ⟨by simp, below_chain hb0 hb3⟩

set_option maxRecDepth 100000 in
set_option maxHeartbeats 1000000 in
theorem fValidB_any (p : Nat) (w : World) (hp : okP p = false) :
    Calls Tryz.prog 81 #[fv p] w fun e w' => e = .returned (.bool false) ∧ Below w.heap.size w w' := by
  unfold okP at hp
  simp only [Bool.or_eq_false_iff, beq_eq_false_iff_ne] at hp
  obtain ⟨⟨⟨⟨⟨⟨h1, h2⟩, h3⟩, h4⟩, h5⟩, h6⟩, h7⟩ := hp
  have d1 : ((p : Int) == 17) = false := by rw [beq_eq_false_iff_ne]; omega
  have d2 : ((p : Int) == 97) = false := by rw [beq_eq_false_iff_ne]; omega
  have d3 : ((p : Int) == 193) = false := by rw [beq_eq_false_iff_ne]; omega
  have d4 : ((p : Int) == 257) = false := by rw [beq_eq_false_iff_ne]; omega
  have d5 : ((p : Int) == 12289) = false := by rw [beq_eq_false_iff_ne]; omega
  have d6 : ((p : Int) == 65537) = false := by rw [beq_eq_false_iff_ne]; omega
  have d7 : ((p : Int) == 18446744069414584321) = false := by rw [beq_eq_false_iff_ne]; omega
  clear h1 h2 h3 h4 h5 h6 h7
  unfold fv
  go_enter Tryz.func81, Tryz.ntmps81
  go_wp2_with fail
  go_ret
  exact ⟨rfl, (Below.refl _ _).alloc (Nat.le_refl _) _⟩
theorem fValidX_any (p : Nat) (w : World) : Calls Tryz.prog 81 #[fv p] w fun e w' => e = .returned (.bool (okP p)) ∧ Below w.heap.size w w' := by
  cases h : okP p
  · exact fValidB_any p w h
  · exact fValid_any p w h

set_option maxRecDepth 100000 in
set_option maxHeartbeats 1000000 in
theorem pSizes_any (p : Nat) (pub vars : Int) (rows : Value) (w : World) (hs : slc rows) :
    Calls Tryz.prog 115 #[tabV p pub vars rows] w fun e w' => e = .returned (.bool (okP p && !decide (pub < 0) && !decide (vars ≤ pub) && !decide (65536 < vars))) ∧ Below w.heap.size w w' := by
  have HV := Lib.hid (fun w => fValidX_any p w)
  obtain ⟨As, ns, cs, rfl⟩ := hs
  generalize okP p = b0 at *
  unfold tabV fv at *
  have kt := Blk.new w 25 #[.int .u64 (p : Int), .int .i64 pub, .int .i64 vars, .slice As ns cs]
  have hb0 : Below w.heap.size w (w.alloc (.cells #[.int .u64 (p : Int), .int .i64 pub, .int .i64 vars, .slice As ns cs] 25)) := (Below.refl _ _).alloc (Nat.le_refl _) _
  go_enter Tryz.func115, Tryz.ntmps115
  go_wp2_with fail
  generalize w.alloc _ = w0 at kt hb0 ⊢
  refine (HV.out _).mono ?_
  rintro e w1 ⟨rfl, hb1⟩
  replace kt := kt.below hb1 kt.lt
  replace hb0 := below_chain hb0 hb1
  clear hb1
  have ct := kt.cell
  cases b0
  · go_wp2
    go_ret
    exact ⟨rfl, hb0⟩
  by_cases z1 : pub < 0
  · have d1 : decide (0 ≤ pub) = false := decide_eq_false (by omega)
    have e1 := decide_eq_true z1
    go_wp2
    go_ret
    exact ⟨by simp [e1], hb0⟩
  have d1 : decide (0 ≤ pub) = true := decide_eq_true (by omega)
  have e1 := decide_eq_false z1
  by_cases z2 : vars ≤ pub
  · have d2 : decide (pub < vars) = false := decide_eq_false (by omega)
    have e2 := decide_eq_true z2
    go_wp2
    go_ret
    exact ⟨by simp [e2], hb0⟩
  have d2 : decide (pub < vars) = true := decide_eq_true (by omega)
  have e2 := decide_eq_false z2
  by_cases z3 : 65536 < vars
  · have d3 : decide (vars ≤ 65536) = false := decide_eq_false (by omega)
    have e3 := decide_eq_true z3
    go_wp2
    go_ret
    exact ⟨by simp [e3], hb0⟩
  have d3 : decide (vars ≤ 65536) = true := decide_eq_true (by omega)
  have e3 := decide_eq_false z3
  go_wp2
  go_ret
  exact ⟨by simp [e1, e2, e3], hb0⟩
end Go.Proofs.YtefnagiffllhbaaGreat

/- TabC -/
namespace Go.Proofs.YtefnagiffllhbaaGreat
open Go.RowKit

set_option maxRecDepth 100000 in
set_option maxHeartbeats 1000000 in
theorem pTabValid_any (p : Nat) (pub vars : Int) (A : Option Addr) (n c : Nat) (rows : List RowR) (w : World) (hr : RSl 3 RRow w [.slice A n c] rows) :
    Calls Tryz.prog 73 #[tabV p pub vars (.slice A n c)] w fun e w' => e = .returned (.bool (tabOk p pub vars rows)) ∧ Below w.heap.size w w' := by
  have HS := Lib.hid (fun w => pSizes_any p pub vars (.slice A n c) w ⟨_, _, _, rfl⟩)
  have HR := Lib.hid (fun r x y z w hx hy hz => pRow_any p pub vars (.slice A n c) r x y z w hx hy hz ⟨_, _, _, rfl⟩)
  obtain ⟨A', n', c', he, hlen, hnc, hmx, hrd⟩ := hr
  simp at he
  obtain ⟨rfl, rfl, rfl⟩ := he
  subst hlen
  have g0 : (rows.length : Int) ≤ 9223372036854775807 := by
    have h4 := hmx
    simp [maxLen] at h4
    omega
  have E := Lib.hid (show tabOk p pub vars rows = ((okP p && !decide (pub < 0) && !decide (vars ≤ pub) && !decide (65536 < vars)) && !decide ((16384 : Int) < (rows.length : Int)) && rows.all (rowOk p vars)) from rfl)
  revert HS E
  generalize tabOk p pub vars rows = ans
  generalize (okP p && !decide (pub < 0) && !decide (vars ≤ pub) && !decide (65536 < vars)) = b0
  intro HS E
  unfold tabV at *
  have kt := Blk.new w 25 #[.int .u64 (p : Int), .int .i64 pub, .int .i64 vars, .slice A rows.length c]
  have hb0 : Below w.heap.size w (w.alloc (.cells #[.int .u64 (p : Int), .int .i64 pub, .int .i64 vars, .slice A rows.length c] 25)) := (Below.refl _ _).alloc (Nat.le_refl _) _
  go_enter Tryz.func73, Tryz.ntmps73
  go_wp2_with fail
  generalize w.alloc _ = w0 at kt hb0 ⊢
  refine (HS.out _).mono ?_
  rintro e w1 ⟨rfl, hb1⟩
  replace kt := kt.below hb1 kt.lt
  replace hb0 := below_chain hb0 hb1
  clear hb1
  have ct := kt.cell
  cases b0
  · go_wp2
    go_ret
    exact ⟨by rw [E.out]; simp, hb0⟩
  by_cases z4 : (16384 : Int) < (rows.length : Int)
  · have d4 := decide_eq_true z4
    go_wp2
    go_ret
    exact ⟨by rw [E.out]; simp [d4], hb0⟩
  have d4 := decide_eq_false z4
  have E2 := Lib.hid (show ans = rows.all (rowOk p vars) by rw [E.out, d4]; simp)
  clear E
  go_wp2_with fail
  clear ct
  go_loopw [17] (fun i wr => ∃ j : Nat, j ≤ rows.length ∧ i = .int .i64 (j : Int) ∧ Blk wr w.heap.size 25 #[.int .u64 (p : Int), .int .i64 pub, .int .i64 vars, .slice A rows.length c] ∧ Below w.heap.size w wr ∧ Hid (∀ k < j, ∀ h : k < rows.length, rowOk p vars rows[k] = true))
    (fun i _ => rows.length - (intOf i).toNat)
  case atStart => exact ⟨0, Nat.zero_le _, rfl, kt, hb0, fun k hk => by omega⟩
  case round =>
    clear kt hb0
    obtain ⟨j, hj, rfl, kt, hb0, HB⟩ := hrel
    by_cases hlt : j < rows.length
    · have HL := Lib.hid hlt
      obtain ⟨b, q, rfl⟩ := hrd.base (by omega) (by omega)
      obtain ⟨cs, -, hc, x, y, z, rfl, hx1, hy1, hz1⟩ := (hrd.below kept_RRow hb0).get hlt
      have h0 : wr.cell? ⟨b, q + j * 3, none⟩ = some x := hc 0 (by omega)
      have h1 : wr.cell? ⟨b, q + j * 3 + 1, none⟩ = some y := hc 1 (by omega)
      have h2 : wr.cell? ⟨b, q + j * 3 + 2, none⟩ = some z := hc 2 (by omega)
      have i1 : (0 : Int) ≤ (j : Int) := by omega
      have i2 : (j : Int) < (rows.length : Int) := by omega
      have hbl := World.block_lt_of_cell? _ _ h0
      simp only at hbl
      have HC := Lib.hid (fun w' (hb : Below wr.heap.size wr w') => HR.out rows[j] x y z w' (kept_RLin _ _ _ _ hb hx1) (kept_RLin _ _ _ _ hb hy1) (kept_RLin _ _ _ _ hb hz1))
      obtain ⟨A1, n1, c1, rfl⟩ := RSl.slc hx1
      obtain ⟨A2, n2, c2, rfl⟩ := RSl.slc hy1
      obtain ⟨A3, n3, c3, rfl⟩ := RSl.slc hz1
      have hal := (Below.refl wr.heap.size wr).alloc (Nat.le_refl _) (.cells #[.slice A1 n1 c1, .slice A2 n2 c2, .slice A3 n3 c3] 75)
      have ct := kt.cell
      have lt := kt.lt
      clear hc hx1 hy1 hz1
      go_wp2_with fail
      refine (HC.out _ hal).mono ?_
      rintro e w3 ⟨rfl, hb3⟩
      have hb4 := below_chain hal hb3
      replace kt := kt.below hb4 kt.lt
      replace hb0 := below_chain hb0 hb4
      clear hal hb3 hb4 h0 h1 h2 ct lt
      cases bo : rowOk p vars rows[j]
      · have HO := Lib.hid bo
        clear bo
        go_wp2
        go_ret
        exact ⟨by rw [E2.out, List.all_eq_false.2 ⟨rows[j], List.getElem_mem HL.out, fun h => Bool.noConfusion (HO.out.symm.trans h)⟩]; rfl, hb0⟩
      · have HO := Lib.hid bo
        clear bo
        go_wp2
        go_roundw
        case rel =>
          refine ⟨j + 1, by omega, by go_num, kt, hb0, fun k hk h => ?_⟩
          by_cases e : k < j
          · exact HB.out k e h
          · obtain rfl : k = j := by omega
            exact HO.out
        case measure => simp [intOf]; omega
    · obtain rfl : rows.length = j := by omega
      go_wp2
      go_ret
      exact ⟨by rw [E2.out, List.all_eq_true.2 fun r hr => by obtain ⟨k, hk, rfl⟩ := List.getElem_of_mem hr; exact HB.out k hk hk]; rfl, hb0⟩

set_option maxHeartbeats 400000 in
theorem parts_any (n k : Nat) (w : World) (hn : n ≤ 1000000000) (hk : 0 < k) (hk2 : k ≤ 1000000000) :
    Calls Tryz.prog 75 #[.int .i64 (n : Int), .int .i64 (k : Int)] w fun e w' => e = .returned (.int .i64 (((n + k - 1) / k : Nat) : Int)) ∧ w' = w := by
  have e1 : (n : Int) + (k : Int) = ((n + k : Nat) : Int) := by omega
  obtain ⟨s, hs⟩ : ∃ s, s = n + k := ⟨_, rfl⟩
  obtain ⟨t, ht⟩ : ∃ t, t = n + k - 1 := ⟨_, rfl⟩
  obtain ⟨r, hr⟩ : ∃ r, r = t / k := ⟨_, rfl⟩
  have e2 : (s : Int) - 1 = (t : Int) := by omega
  rw [← hs] at e1
  rw [← ht, ← hr]
  have e3 : (t : Int) / (k : Int) = (r : Int) := by rw [hr]; rfl
  have e4 : (t : Int).tdiv (k : Int) = (r : Int) := by rw [hr]; rfl
  have e5 : IntKind.i64.wrap (s : Int) = (s : Int) := wr_i64 _ (by omega) (by omega)
  have e6 : IntKind.i64.wrap (t : Int) = (t : Int) := wr_i64 _ (by omega) (by omega)
  have hrt : r ≤ t := by rw [hr]; exact Nat.div_le_self _ _
  have e7 : IntKind.i64.wrap (r : Int) = (r : Int) := wr_i64 _ (by omega) (by omega)
  have q1 : (0 : Int) < (k : Int) := by omega
  have q2 : ¬ ((k : Int) = 0) := by omega
  have q3 : ¬ (k = 0) := by omega
  clear hs ht hr hrt
  go_enter Tryz.func75, Tryz.ntmps75
  go_wp2_with fail
  go_ret
  exact ⟨rfl, rfl⟩
end Go.Proofs.YtefnagiffllhbaaGreat

/- NewA -/
namespace Go.Proofs.YtefnagiffllhbaaGreat
open Go.RowKit

def parBad (bl bw qs : Int) : Prop := bl < 2 ∨ 256 < bl ∨ bl.toNat &&& (bl.toNat - 1) ≠ 0 ∨ qs < 1 ∨ 64 < qs ∨ (bw ≠ 1 ∧ bw ≠ 2 ∧ bw ≠ 4 ∧ bw ≠ 8)
theorem newErr_bad {p : Nat} {pub vars : Int} {nr : Nat} {bl bw qs : Int} (h : parBad bl bw qs) : newErr ⟨p, pub, vars, nr, bl, bw, qs⟩ = 1 := if_pos h

set_option maxRecDepth 100000 in
set_option maxHeartbeats 1000000 in
theorem parsBad_any (bl bw qs : Int) (w : World) (h : parBad bl bw qs) :
    Calls Tryz.prog 74 #[.agg #[.int .i64 bl, .int .i64 bw, .int .i64 qs]] w fun e w' => e = .returned (.bool false) ∧ Below w.heap.size w w' := by
  have hb0 : Below w.heap.size w (w.alloc (.cells #[.int .i64 bl, .int .i64 bw, .int .i64 qs] 27)) := (Below.refl _ _).alloc (Nat.le_refl _) _
  by_cases hw : bw ≠ 1 ∧ bw ≠ 2 ∧ bw ≠ 4 ∧ bw ≠ 8
  · obtain ⟨h1, h2, h3, h4⟩ := hw
    have d1 : (bw != 1) = true := by rw [bne_iff_ne]; exact h1
    have d2 : (bw != 2) = true := by rw [bne_iff_ne]; exact h2
    have d3 : (bw != 4) = true := by rw [bne_iff_ne]; exact h3
    have d4 : (bw != 8) = true := by rw [bne_iff_ne]; exact h4
    clear h h1 h2 h3 h4
    go_enter Tryz.func74, Tryz.ntmps74
    go_wp2_with fail
    go_ret
    exact ⟨rfl, hb0⟩
  have hw' : bw = 1 ∨ bw = 2 ∨ bw = 4 ∨ bw = 8 := by omega
  by_cases z1 : bl < 2
  · have d1 : decide (2 ≤ bl) = false := decide_eq_false (by omega)
    clear h hw
    rcases hw' with rfl | rfl | rfl | rfl <;>
    · go_enter Tryz.func74, Tryz.ntmps74
      go_wp2_with fail
      go_ret
      exact ⟨rfl, hb0⟩
  have d1 : decide (2 ≤ bl) = true := decide_eq_true (by omega)
  by_cases z2 : 256 < bl
  · have d2 : decide (bl ≤ 256) = false := decide_eq_false (by omega)
    clear h hw
    rcases hw' with rfl | rfl | rfl | rfl <;>
    · go_enter Tryz.func74, Tryz.ntmps74
      go_wp2_with fail
      go_ret
      exact ⟨rfl, hb0⟩
  have d2 : decide (bl ≤ 256) = true := decide_eq_true (by omega)
  obtain ⟨b, rfl⟩ := Int.eq_ofNat_of_zero_le (show 0 ≤ bl by omega)
  unfold parBad at h
  rw [Int.toNat_natCast] at h
  have hand := and_pred ⟨b, by omega⟩ (by show 2 ≤ b; omega)
  simp only at hand
  have i1 : (1 : Int) ≤ (b : Int) := by omega
  have i2 : (0 : Int) ≤ (b : Int) - 1 := by omega
  have i3 : (b : Int) ≤ 256 := by omega
  by_cases z3 : b &&& (b - 1) = 0
  · rw [z3] at hand
    have hq : ¬ (1 ≤ qs ∧ qs ≤ 64) := by omega
    clear h hw z3
    by_cases z4 : qs < 1
    · have d4 : decide (1 ≤ qs) = false := decide_eq_false (by omega)
      rcases hw' with rfl | rfl | rfl | rfl <;>
      · go_enter Tryz.func74, Tryz.ntmps74
        go_wp2_with fail
        go_ret
        exact ⟨rfl, hb0⟩
    · have d4 : decide (1 ≤ qs) = true := decide_eq_true (by omega)
      have d5 : decide (qs ≤ 64) = false := decide_eq_false (by omega)
      rcases hw' with rfl | rfl | rfl | rfl <;>
      · go_enter Tryz.func74, Tryz.ntmps74
        go_wp2_with fail
        go_ret
        exact ⟨rfl, hb0⟩
  · obtain ⟨v, hv⟩ : ∃ v, v = b &&& (b - 1) := ⟨_, rfl⟩
    rw [← hv] at hand z3
    have d3 : ((v : Int) == 0) = false := by rw [beq_eq_false_iff_ne]; omega
    clear h hw hv z3
    rcases hw' with rfl | rfl | rfl | rfl <;>
    · go_enter Tryz.func74, Tryz.ntmps74
      go_wp2_with fail
      go_ret
      exact ⟨rfl, hb0⟩

set_option maxRecDepth 100000 in
set_option maxHeartbeats 1000000 in
theorem parsGood_any (b bw q : Nat) (w : World) (h0 : 2 ≤ b) (h1 : b ≤ 256) (h2 : b &&& (b - 1) = 0) (h3 : 1 ≤ q) (h4 : q ≤ 64) (hw' : bw = 1 ∨ bw = 2 ∨ bw = 4 ∨ bw = 8) :
    Calls Tryz.prog 74 #[.agg #[.int .i64 (b : Int), .int .i64 (bw : Int), .int .i64 (q : Int)]] w fun e w' => e = .returned (.bool true) ∧ Below w.heap.size w w' := by
  have hand := and_pred ⟨b, by omega⟩ (by show 2 ≤ b; omega)
  simp only at hand
  rw [h2] at hand
  have i1 : (1 : Int) ≤ (b : Int) := by omega
  have i2 : (0 : Int) ≤ (b : Int) - 1 := by omega
  have i3 : (b : Int) ≤ 256 := by omega
  have d1 : decide ((2 : Int) ≤ (b : Int)) = true := decide_eq_true (by omega)
  have d2 : decide ((b : Int) ≤ 256) = true := decide_eq_true (by omega)
  have d4 : decide ((1 : Int) ≤ (q : Int)) = true := decide_eq_true (by omega)
  have d5 : decide ((q : Int) ≤ 64) = true := decide_eq_true (by omega)
  clear h0 h1 h2 h3 h4
  have hb0 : Below w.heap.size w (w.alloc (.cells #[.int .i64 (b : Int), .int .i64 (bw : Int), .int .i64 (q : Int)] 27)) := (Below.refl _ _).alloc (Nat.le_refl _) _
  rcases hw' with rfl | rfl | rfl | rfl <;>
  · go_enter Tryz.func74, Tryz.ntmps74
    go_wp2_with fail
    go_ret
    exact ⟨rfl, hb0⟩
end Go.Proofs.YtefnagiffllhbaaGreat
