/-
  Walks of package wire: room, appendDigits, appendLength.
-/
import Derived.Test.YtefnagiffllhbaaWords
namespace Go.Proofs.Ytefnagiffllhbaa
open Go.RowKit

theorem info_u8 : (Try.prog.info? 5).map (fun i => (i.zero, i.size, i.bytes)) = some (some (.int .u8 0), 1, 1) := by kernel_rfl
theorem info_u64 : (Try.prog.info? 22).map (fun i => (i.zero, i.size, i.bytes)) = some (some (.int .u64 0), 1, 8) := by kernel_rfl

theorem made_len (z : Array Value) (n : Nat) : (madeCells z n).toList.length = n := by
  rw [Array.length_toList, size_madeCells]
theorem splice_zero_take {α : Type} {L : List α} {cs : List α} {n : Nat} (h : cs.length = n) : (splice L 0 cs).toArray.toList.take n = cs := by
  subst h
  simp [splice]
theorem rd_src {w w' : World} {A : Option Addr} {n : Nat} {xs : List Value} (h : Rd w 1 A n xs) (hn : 0 < n) (hk : ∀ p : Addr, p.block < w.heap.size → w'.cell? p = w.cell? p := by intro p hp; exact World.cell?_alloc_lt _ _ _ hp) :
    ∃ ad, A = some ad ∧ ∀ j v, xs[j]? = some v → w'.cell? (ad.add j) = some v := (h.keep hk).2 hn

/-- The lowest bytes of a number, the least significant one first. -/
def digs : Nat → Nat → List Nat
  | _, 0 => []
  | n, k + 1 => n % 256 :: digs (n / 256) k
theorem digs_snoc : ∀ (k n : Nat), digs n (k + 1) = digs n k ++ [n / 256 ^ k % 256]
  | 0, n => by simp [digs]
  | k + 1, n => by
    rw [digs, digs_snoc k (n / 256), digs, List.cons_append, Nat.div_div_eq_div_mul, Nat.pow_succ, Nat.mul_comm 256]
theorem len_digs : ∀ (k n : Nat), (digs n k).length = k
  | 0, _ => rfl
  | k + 1, n => by simp [digs, len_digs k]

/-- The number that is encoded for a length. -/
def lenOf (n : Int) : Nat := if n < 0 ∨ 4294967295 < n then 0 else n.toNat
theorem lenOf_out {n : Int} (h : n < 0 ∨ 4294967295 < n) : lenOf n = 0 := by simp [lenOf, h]
theorem lenOf_in {n : Int} (h : 0 ≤ n) (h2 : n ≤ 4294967295) : lenOf n = n.toNat := by
  unfold lenOf
  rw [if_neg (by omega)]
theorem lenOf_nat {n : Nat} (h : n ≤ 4294967295) : lenOf (n : Int) = n := by rw [lenOf_in (by omega) (by omega)]; omega
theorem lenOf_lt (n : Int) : lenOf n < 4294967296 := by unfold lenOf; split <;> omega

/-- What a call gives that appends to a row v of its caller's: the row with more cells; what it wrote. -/
def Adds (w : World) (v : Value) (base n : Nat) (xs : List Value) (e : Ending) (w' : World) : Prop :=
  ∃ v', e = .returned v' ∧ w'.ownsRow base 5 1 v' n xs ∧ w.grownBy w' v.ownBlock ∧ (∀ g, v'.ownBlock = some g → v.ownBlock = some g ∨ w.heap.size ≤ g)

end Go.Proofs.Ytefnagiffllhbaa
