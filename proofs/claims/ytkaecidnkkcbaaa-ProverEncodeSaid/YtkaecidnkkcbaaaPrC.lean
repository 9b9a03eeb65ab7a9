/-
  A proof as data; ref27.Few; ref27.Valid.
-/
import Derived.Test.YtkaecidnkkcbaaaPrB
namespace Go.Proofs.Ytkaecidnkkcbaaa
open Go.RowKit

/-- A proof. -/
structure ProofR where
  root : Nat
  code : List Nat
  linear : List Nat
  quad : List Nat
  cols : List (List Nat)
  salts : List Nat
  paths : List (List Nat)
/-- The slices of a proof. -/
structure PS where
  A1 : Option Addr
  n1 : Nat
  c1 : Nat
  A2 : Option Addr
  n2 : Nat
  c2 : Nat
  A3 : Option Addr
  n3 : Nat
  c3 : Nat
  A4 : Option Addr
  n4 : Nat
  c4 : Nat
  A5 : Option Addr
  n5 : Nat
  c5 : Nat
  A6 : Option Addr
  n6 : Nat
  c6 : Nat
def prCs (P : ProofR) (S : PS) : Array Value := #[.int .u64 (P.root : Int), .slice S.A1 S.n1 S.c1, .slice S.A2 S.n2 S.c2, .slice S.A3 S.n3 S.c3, .slice S.A4 S.n4 S.c4, .slice S.A5 S.n5 S.c5, .slice S.A6 S.n6 S.c6]
structure PrIn (w : World) (P : ProofR) (S : PS) : Prop where
  root : P.root < 18446744073709551616
  code : RWd w [.slice S.A1 S.n1 S.c1] P.code
  linear : RWd w [.slice S.A2 S.n2 S.c2] P.linear
  quad : RWd w [.slice S.A3 S.n3 S.c3] P.quad
  cols : RSl 1 RWd w [.slice S.A4 S.n4 S.c4] P.cols
  salts : RWd w [.slice S.A5 S.n5 S.c5] P.salts
  paths : RSl 1 RWd w [.slice S.A6 S.n6 S.c6] P.paths
theorem prIn_below {w w' : World} {P : ProofR} {S : PS} (h : PrIn w P S) (hb : Below w.heap.size w w') : PrIn w' P S :=
  ⟨h.root, kept_RWd _ _ _ _ hb h.code, kept_RWd _ _ _ _ hb h.linear, kept_RWd _ _ _ _ hb h.quad, kept_RSl kept_RWd _ _ _ _ hb h.cols, kept_RWd _ _ _ _ hb h.salts, kept_RSl kept_RWd _ _ _ _ hb h.paths⟩
theorem lists_open {w : World} {A : Option Addr} {n c : Nat} {ls : List (List Nat)} (h : RSl 1 RWd w [.slice A n c] ls) : n = ls.length ∧ n ≤ c ∧ c ≤ maxLen ∧ RdL w 1 RWd A ls := by
  obtain ⟨A', n', c', he, hlen, hnc, hmx, hrd⟩ := h
  simp at he
  obtain ⟨rfl, rfl, rfl⟩ := he
  exact ⟨hlen.symm, hnc, hmx, hrd⟩
/-- One list of a list of lists. -/
theorem lists_get {w : World} {A : Option Addr} {ls : List (List Nat)} (h : RdL w 1 RWd A ls) {j : Nat} (hj : j < ls.length) : ∃ b q A1 n1 c1, A = some ⟨b, q, none⟩ ∧ b < w.heap.size ∧ w.cell? ⟨b, q + j, none⟩ = some (.slice A1 n1 c1) ∧ RWd w [.slice A1 n1 c1] ls[j] := by
  obtain ⟨b, q, rfl⟩ := h.base (by omega) (by omega)
  obtain ⟨cs, hl1, hc, hr⟩ := h.get hj
  have hr' := hr
  obtain ⟨A1, n1, c1, rfl, -⟩ := hr
  have c0 := hc 0 (by omega)
  simp at c0
  exact ⟨b, q, A1, n1, c1, rfl, World.block_lt_of_cell? _ _ c0, c0, hr'⟩

set_option maxRecDepth 100000 in
set_option maxHeartbeats 2000000 in
theorem few_any (P : ProofR) (S : PS) (w : World) (h : PrIn w P S) :
    Calls Try.prog 8 #[.agg (prCs P S)] w fun e w' => SomeBool e ∧ Below w.heap.size w w' := by
  obtain ⟨e4, f4, g4, r4⟩ := lists_open h.cols
  obtain ⟨e6, f6, g6, r6⟩ := lists_open h.paths
  have m4 := max_int f4 g4
  have m6 := max_int f6 g6
  have E4 := Lib.hid e4
  have E6 := Lib.hid e6
  clear e4 e6 f4 f6 g4 g6 h
  unfold prCs
  have hb0 : Below w.heap.size w (w.alloc (.cells #[.int .u64 (P.root : Int), .slice S.A1 S.n1 S.c1, .slice S.A2 S.n2 S.c2, .slice S.A3 S.n3 S.c3, .slice S.A4 S.n4 S.c4, .slice S.A5 S.n5 S.c5, .slice S.A6 S.n6 S.c6] 35)) := (Below.refl _ _).alloc (Nat.le_refl _) _
  have hB := Blk.new w 35 #[.int .u64 (P.root : Int), .slice S.A1 S.n1 S.c1, .slice S.A2 S.n2 S.c2, .slice S.A3 S.n3 S.c3, .slice S.A4 S.n4 S.c4, .slice S.A5 S.n5 S.c5, .slice S.A6 S.n6 S.c6]
  go_enter Try.func8, Try.ntmps8
  go_upto_block 0 with fail
  revert hb0 hB
  generalize w.alloc _ = w0
  intro hb0 hB
  have r4' := r4.below kept_RWd hb0
  have r6' := r6.below kept_RWd hb0
  have c0 := hB.cell
  have l0 := hB.lt
  clear r4 r6 hB
  go_cut [3] (fun t wx => (∃ z : Int, t = .int .i64 z) ∧ w0 = wx)
  case first =>
    go_wp2_with fail
    go_loop [3, 4] (fun t i => ∃ (j : Nat) (z : Int), j ≤ S.n4 ∧ i = .int .i64 (j : Int) ∧ t = .int .i64 z) (fun _ i => S.n4 - (intOf i).toNat)
    case atStart => exact ⟨0, _, Nat.zero_le _, rfl, rfl⟩
    case round =>
      obtain ⟨j, z, hj, rfl, rfl⟩ := hrel
      by_cases hlt : j < S.n4
      · by_cases hz : z ≤ 4000
        · obtain ⟨b, q, A1, n1, c1, hA, hbl, hc, -⟩ := lists_get r4' (show j < P.cols.length by rw [← E4.out]; exact hlt)
          have d1 := decide_eq_true hz
          have g1 : (0 : Int) ≤ (j : Int) := by omega
          have g2 : (j : Int) < (S.n4 : Int) := by omega
          rw [hA] at c0
          clear hz r4' r6'
          go_wp2_with fail
          go_round
          case rel => exact ⟨j + 1, _, by omega, by go_num, rfl⟩
          case measure => simp [intOf]; omega
        · have d1 := decide_eq_false hz
          clear r4' r6'
          go_wp2_with fail
          go_meet
          exact ⟨⟨_, rfl⟩, rfl⟩
      · clear r4' r6'
        go_wp2_with fail
        go_meet
        exact ⟨⟨_, rfl⟩, rfl⟩
  case rest =>
    obtain ⟨⟨z0, rfl⟩, rfl⟩ := hcut
    go_wp2_with fail
    go_loop [3, 5] (fun t i => ∃ (j : Nat) (z : Int), j ≤ S.n6 ∧ i = .int .i64 (j : Int) ∧ t = .int .i64 z) (fun _ i => S.n6 - (intOf i).toNat)
    case atStart => exact ⟨0, _, Nat.zero_le _, rfl, rfl⟩
    case round =>
      obtain ⟨j, z, hj, rfl, rfl⟩ := hrel
      by_cases hlt : j < S.n6
      · by_cases hz : z ≤ 4000
        · obtain ⟨b, q, A1, n1, c1, hA, hbl, hc, -⟩ := lists_get r6' (show j < P.paths.length by rw [← E6.out]; exact hlt)
          have d1 := decide_eq_true hz
          have g1 : (0 : Int) ≤ (j : Int) := by omega
          have g2 : (j : Int) < (S.n6 : Int) := by omega
          rw [hA] at c0
          clear hz r4' r6'
          go_wp2_with fail
          go_round
          case rel => exact ⟨j + 1, _, by omega, by go_num, rfl⟩
          case measure => simp [intOf]; omega
        · have d1 := decide_eq_false hz
          clear r4' r6'
          go_wp2_with fail
          go_ret
          exact ⟨⟨_, rfl⟩, hb0⟩
      · clear r4' r6'
        go_wp2_with fail
        go_ret
        exact ⟨⟨_, rfl⟩, hb0⟩
end Go.Proofs.Ytkaecidnkkcbaaa

