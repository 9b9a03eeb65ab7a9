/-
  Walks of package wire's reader: left, digits.
-/
import Derived.Test.YtkaecidnkkcbaaaWireC
import Derived.Test.YtkaecidnkkcbaaaRegion
import Derived.Deep.QuietTactic
import Derived.BigQuiet
namespace Go.Proofs.Ytkaecidnkkcbaaa
open Go.RowKit

/-- The number that bytes represent, the least significant one first. -/
def valOf : List Nat → Nat
  | [] => 0
  | x :: r => x + 256 * valOf r
theorem valOf_lt : ∀ (l : List Nat), (∀ x ∈ l, x < 256) → valOf l < 256 ^ l.length
  | [], _ => by simp [valOf]
  | x :: r, h => by
    have h1 := h x (by simp)
    have h2 := valOf_lt r fun y hy => h y (by simp [hy])
    rw [valOf, List.length_cons, Nat.pow_succ]
    omega
theorem valOf_snoc : ∀ (l : List Nat) (x : Nat), valOf (l ++ [x]) = valOf l + 256 ^ l.length * x
  | [], x => by simp [valOf]
  | y :: r, x => by
    rw [List.cons_append, valOf, valOf_snoc r x, valOf, List.length_cons, Nat.pow_succ, Nat.mul_add, ← Nat.mul_assoc, Nat.mul_comm 256 (256 ^ r.length), Nat.add_assoc]

theorem valOf_take_lt {L : List Nat} {p : Nat} (h : ∀ x ∈ L, x < 256) (j : Nat) : valOf ((L.drop p).take j) < 256 ^ j := by
  have h1 := valOf_lt ((L.drop p).take j) fun x hx => h x (List.mem_of_mem_drop (List.mem_of_mem_take hx))
  exact Nat.lt_of_lt_of_le h1 (Nat.pow_le_pow_right (by omega) (by rw [List.length_take]; omega))
theorem pow256 (j : Nat) : (256 : Nat) ^ j = 2 ^ (8 * j) := by rw [Nat.pow_mul]
theorem add_byte_lt {z y j : Nat} (hz : z < 256 ^ j) (hy : y < 256) (hj : j < 8) : z + 256 ^ j * y < 18446744073709551616 := by
  have h1 : z + 256 ^ j * y < 256 ^ j * (y + 1) := by rw [Nat.mul_add]; omega
  have h2 : 256 ^ j * (y + 1) ≤ 256 ^ j * 256 := Nat.mul_le_mul_left _ (by omega)
  have h3 : 256 ^ j * 256 = 256 ^ (j + 1) := (Nat.pow_succ ..).symm
  have h4 : (256 : Nat) ^ (j + 1) ≤ 256 ^ 8 := Nat.pow_le_pow_right (by omega) (by omega)
  have h5 : (256 : Nat) ^ 8 = 18446744073709551616 := by decide
  omega
theorem or_byte (z y j : Nat) (hz : z < 256 ^ j) (hy : y < 256) (hj : j < 8) : bits BinOp.or IntKind.u64 (z : Int) (IntKind.u64.wrap ((y : Int) * 2 ^ (8 * j))) = ((z + 256 ^ j * y : Nat) : Int) := by
  have h0 := add_byte_lt hz hy hj
  have e1 : (y : Int) * 2 ^ (8 * j) = ((256 ^ j * y : Nat) : Int) := by rw [pow256, Int.natCast_mul, Int.natCast_pow, Int.mul_comm]; rfl
  rw [e1, IntKind.wrap_u64]
  have e2 : (((256 ^ j * y : Nat) : Int)) % 18446744073709551616 = ((256 ^ j * y : Nat) : Int) := by omega
  rw [e2, bits_or_u64_nat _ _ (by omega) (by omega)]
  congr 1
  rw [pow256] at hz ⊢
  have := Nat.shiftLeft_add_eq_or_of_lt hz y
  rw [Nat.shiftLeft_eq, Nat.mul_comm y] at this
  rw [Nat.or_comm, ← this, Nat.add_comm]

theorem valOf_take_succ (L : List Nat) (p j y : Nat) (h : p + j < L.length) (hy : y = L[p + j]) : valOf ((L.drop p).take j) + 256 ^ j * y = valOf ((L.drop p).take (j + 1)) := by
  have hl : j < (L.drop p).length := by rw [List.length_drop]; omega
  rw [List.take_succ_eq_append_getElem hl, valOf_snoc, List.length_take, Nat.min_eq_left (Nat.le_of_lt hl), List.getElem_drop, hy]

/-- A reader in block g, whose bytes lie in a block from bd.1 on and below bd.2: the bytes that are left, and whether it has failed. -/
def WR (w : World) (g : Nat) (bd : Nat × Nat) (l : List Nat) (f : Bool) : Prop :=
  ∃ (A : Option Addr) (n c p : Nat) (L : List Nat), Blk w g 91 #[.slice A n c, .int .i64 (p : Int), .bool f] ∧ Rd w 1 A n (U8 L) ∧ ((∀ ad, A = some ad → bd.1 ≤ ad.block ∧ ad.block < bd.2) ∧ bd.2 ≤ g) ∧ (p ≤ n ∧ n ≤ c) ∧ n ≤ 10000000 ∧ L.drop p = l ∧ ∀ x ∈ L, x < 256

set_option maxHeartbeats 400000 in
theorem left_any (g n c p : Nat) (A : Option Addr) (f : Bool) (w : World) (hb : Blk w g 91 #[.slice A n c, .int .i64 (p : Int), .bool f]) (hp : p ≤ n) (hn : n ≤ 10000000) :
    Calls Try.prog 55 #[.pointer (some ⟨g, 0, none⟩)] w fun e w' => e = .returned (.int .i64 ((n : Int) - (p : Int))) ∧ ∃ k, w' = w.drewN k := by
  have h0 := hb.cell 0
  have h1 := hb.cell 1
  simp at h0 h1
  clear hb
  go_enter Try.func55, Try.ntmps55
  go_wp2_with fail
  go_quiet (fail)
  go_wp2
  go_ret
  exact ⟨rfl, _, rfl⟩

/-- What reading a number of k bytes gives: the number, whether it is there, the bytes that are left, and whether the reader has failed. -/
def rdDig (k : Nat) (l : List Nat) (f : Bool) : Nat × Bool × List Nat × Bool :=
  if f = true ∨ l.length < k then (0, false, l, true) else (valOf (l.take k), true, l.drop k, false)

set_option maxHeartbeats 400000 in
theorem digits_any (g : Nat) (bd : Nat × Nat) (k : Nat) (l : List Nat) (f : Bool) (w : World) (h : WR w g bd l f) (hk : k ≤ 8) :
    Calls Try.prog 46 #[.pointer (some ⟨g, 0, none⟩), .int .i64 k] w fun e w' => e = .returned (.tuple #[.int .u64 (rdDig k l f).1, .bool (rdDig k l f).2.1]) ∧ WR w' g bd (rdDig k l f).2.2.1 (rdDig k l f).2.2.2 ∧ w.grownBy w' (some g) := by
  obtain ⟨A, n, c, p, L, hb, hr, hAb, hpc, hn, rfl, hL⟩ := h
  have hp := hpc.1
  have hA : ∀ ad, A = some ad → ad.block ≠ g := fun ad e => by have := hAb.1 ad e; omega
  have h0 := hb.cell 0
  have h1 := hb.cell 1
  have h2 := hb.cell 2
  have f2 := hb.frozen 2
  have f1 := hb.frozen 1
  simp at h0 h1 h2
  have hlen := hr.len1
  rw [len_U8] at hlen
  have HLn := Lib.hid hlen
  clear hlen
  by_cases hf : f = true
  · subst hf
    have HE : Hid (rdDig k (L.drop p) true = (0, false, L.drop p, true)) := by simp [Hid, rdDig]
    rw [HE.out]
    go_enter Try.func46, Try.ntmps46
    go_wp2
    go_ret2
    exact ⟨rfl, ⟨A, n, c, p, L, by simpa using hb.set_ 2 (.bool true), hr.set_ (p := ⟨g, 2, none⟩) hA _, hAb, hpc, hn, rfl, hL⟩, grown_setCell' (p := ⟨g, 2, none⟩) (grown_refl' _ _) (.inl rfl) _⟩
  · have hf' : f = false := by simpa using hf
    subst hf'
    clear hf
    by_cases hs : n - p < k
    · have HE : Hid (rdDig k (L.drop p) false = (0, false, L.drop p, true)) := by
        show _ = _
        rw [rdDig, if_pos (.inr (by rw [List.length_drop, HLn.out]; exact hs))]
      rw [HE.out]
      go_enter Try.func46, Try.ntmps46
      go_wp2_with (go_at_call 55; refine (left_any g n c p A false w hb hp hn).mono ?_; rintro e w1 ⟨rfl, kk, rfl⟩)
      go_ret2
      exact ⟨rfl, ⟨A, n, c, p, L, by simpa using (hb.drewN kk).set_ 2 (.bool true), (hr.drewN kk).set_ (p := ⟨g, 2, none⟩) hA _, hAb, hpc, hn, rfl, hL⟩, grown_setCell' (p := ⟨g, 2, none⟩) (grown_drewN' (grown_refl' _ _) _) (.inl rfl) _⟩
    · have HE : Hid (rdDig k (L.drop p) false = (valOf ((L.drop p).take k), true, (L.drop p).drop k, false)) := by
        show _ = _
        rw [rdDig, if_neg (by rw [List.length_drop, HLn.out]; simp; omega)]
      rw [HE.out]
      go_enter Try.func46, Try.ntmps46
      go_wp2_with (go_at_call 55; refine (left_any g n c p A false w hb hp hn).mono ?_; rintro e w1 ⟨rfl, kk, rfl⟩)
      go_loopw [6, 7, 22] (fun y d i wr => ∃ j z m : Nat, j ≤ k ∧ i = .int .i64 (j : Int) ∧ y = .int .u64 (z : Int) ∧ Hid (z = valOf ((L.drop p).take j)) ∧ z < 18446744073709551616 ∧ wr = w.drewN m)
        (fun _ _ i _ => k - (intOf i).toNat)
      case atStart => exact ⟨0, 0, kk, Nat.zero_le _, rfl, rfl, rfl, by omega, rfl⟩
      case round =>
        obtain ⟨j, z, m, hj, rfl, rfl, HZ, hz, rfl⟩ := hrel
        by_cases hlt : j < k
        · obtain ⟨ad, u, rfl, hu, hc⟩ := hr.at_ (show p + j < n by omega)
          have hjl : p + j < L.length := by rw [HLn.out]; omega
          obtain ⟨y, hy⟩ : ∃ y, y = L[p + j] := ⟨_, rfl⟩
          have hyl : y < 256 := by rw [hy]; exact hL _ (List.getElem_mem _)
          rw [at_U8 hjl, ← hy] at hu
          injection hu with hu
          subst hu
          have HY := Lib.hid hy
          clear hy
          have i1 : (0 : Int) ≤ (p : Int) + (j : Int) := by omega
          have i2 : (p : Int) + (j : Int) < (n : Int) := by omega
          have i3 : ((p : Int) + (j : Int)).toNat = p + j := by omega
          go_wp2_with fail
          go_quiet (fail)
          have HV := Lib.hid (or_byte z y j (by rw [HZ.out]; exact valOf_take_lt hL j) hyl (by omega))
          have hz' : z + 256 ^ j * y < 18446744073709551616 := add_byte_lt (by rw [HZ.out]; exact valOf_take_lt hL j) hyl (by omega)
          have HN := Lib.hid (valOf_take_succ L p j y hjl HY.out)
          rw [← HZ.out] at HN
          clear hc hr hb hA hAb h0 h1 h2 i1 i2 i3 hL
          go_wp2
          go_roundw
          case rel => exact ⟨j + 1, z + 256 ^ j * y, _, by omega, by go_num, by rw [HV.out], HN.out, hz', rfl⟩
          case measure => simp [intOf]; omega
        · have e : j = k := by omega
          subst e
          go_wp2
          go_ret2
          refine ⟨by rw [← HZ.out]; rfl, ⟨A, n, c, p + j, L, by simpa using (hb.drewN m).set_ 1 (.int .i64 ((p : Int) + (j : Int))), (hr.drewN m).set_ (p := ⟨g, 1, none⟩) hA _, hAb, ⟨by omega, hpc.2⟩, hn, by rw [List.drop_drop], hL⟩, grown_setCell' (p := ⟨g, 1, none⟩) (grown_drewN' (grown_refl' _ _) _) (.inl rfl) _⟩
end Go.Proofs.Ytkaecidnkkcbaaa

