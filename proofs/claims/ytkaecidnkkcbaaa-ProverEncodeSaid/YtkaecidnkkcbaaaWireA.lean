/-
  Walks of package wire: room, appendDigits, appendLength.
-/
import Derived.Test.YtkaecidnkkcbaaaWords
namespace Go.Proofs.Ytkaecidnkkcbaaa
open Go.RowKit

theorem info_u8 : (Try.prog.info? 5).map (fun i => (i.zero, i.size, i.bytes)) = some (some (.int .u8 0), 1, 1) := by kernel_rfl
theorem info_u64 : (Try.prog.info? 22).map (fun i => (i.zero, i.size, i.bytes)) = some (some (.int .u64 0), 1, 8) := by kernel_rfl

theorem made_len (z : Array Value) (n : Nat) : (madeCells z n).toList.length = n := by
  rw [Array.length_toList, size_madeCells]
theorem splice_zero_take {α : Type} {L : List α} {cs : List α} {n : Nat} (h : cs.length = n) : (splice L 0 cs).toArray.toList.take n = cs := by
  subst h
  simp [splice]
theorem rd_src {w w' : World} {A : Option Addr} {n : Nat} {xs : List Value} (h : Rd w 1 A n xs) (hn : 0 < n) (hk : ∀ p : Addr, p.block < w.heap.size → w'.cell? p = w.cell? p := by intro p hp; exact World.cell?_alloc_lt _ _ _ hp) :
    ∃ ad, A = some ad ∧ ∀ j v, xs[j]? = some v → w'.cell? (ad.add j) = some v := (h.keep hk).2 hn

theorem el_u8 : Elem Try.prog 48 5 1 1 (.int .u8 0) := by
  obtain ⟨i0, hi, hz0, hz1, hz2⟩ := info_parts info_u8
  exact ⟨Try.underlying48, ⟨i0, hi, hz0, hz1, hz2⟩, rfl, by omega⟩
theorem el_u64 : Elem Try.prog 28 22 1 8 (.int .u64 0) := by
  obtain ⟨i0, hi, hz0, hz1, hz2⟩ := info_parts info_u64
  exact ⟨Try.underlying28, ⟨i0, hi, hz0, hz1, hz2⟩, rfl, by omega⟩

set_option maxHeartbeats 400000 in
theorem room_any (A : Option Addr) (n c k : Nat) (xs : List Value) (w : World) (hr : Rd w 1 A n xs) (h1 : ∀ u ∈ xs, u.oneCell' = true) (hk : n + k ≤ 100000000) :
    Calls Try.prog 45 #[.slice A n c, .int .i64 k] w fun e w' => ∃ v, e = .returned v ∧ w'.ownsRow w.heap.size 5 1 v n xs ∧ Below w.heap.size w w' := by
  obtain ⟨i0, hi, hz0, hz1, hz2⟩ := info_parts info_u8
  have hlen := hr.len1
  have hmk : ∀ u : World, (Instr.makeSlice 48 (.int .i64 (n : Int)) (.int .i64 ((n : Int) + (k : Int)))).run Try.prog u =
      .ok (.slice (some ⟨u.heap.size, 0, none⟩) n (n + k)) (u.alloc (.cells (madeCells #[.int .u8 0] (n + k)) 5)) := fun u => by
    have h := run_make (P := Try.prog) u 48 5 i0 (.int .u8 0) Try.underlying48 hi hz0 .i64 .i64 (n : Int) ((n : Int) + (k : Int)) (by omega) (by omega) (by rw [hz2]; omega) (by omega)
    have e : ((n : Int) + (k : Int)).toNat = n + k := by omega
    rw [e] at h
    simpa [hz1, Value.cells] using h
  have F1 := Lib.hid (show 0 + xs.length ≤ (madeCells #[.int .u8 0] (n + k)).toList.length by rw [made_len]; omega)
  have F2 := Lib.hid (show xs.length = Nat.min n n by rw [hlen]; simp)
  have HL := Lib.hid hlen
  clear hlen
  go_enter Try.func45, Try.ntmps45
  go_wp2_with (refine wpList_copy_splice rfl (.tmp 13) (.tmp 14) _ _ rfl 5 Try.underlying48 (by kernel_rfl) _ _ _ _ _ _ rfl rfl w.heap.size 0 (madeCells #[.int .u8 0] (n + k)).toList 5 (heap_alloc_new w _) xs F2.out (fun h => ⟨rfl, rd_src hr (by rw [← HL.out]; exact h)⟩) F1.out h1 w.heap.size w ((Below.refl _ _).alloc (Nat.le_refl _) _) (Nat.le_refl _) ?_; intro w2 hg2 hb2)
  go_ret
  refine ⟨_, rfl, ⟨by rw [HL.out]; omega, .inr ⟨w.heap.size, n + k, _, rfl, Nat.le_refl _, hg2.out, by omega, by simp [maxLen]; omega, ?_, ?_⟩⟩, hb2⟩
  · rw [List.size_toArray, length_splice _ _ _ F1.out, made_len, Nat.mul_one]
  · rw [Nat.mul_one]
    exact splice_zero_take HL.out

/-- The lowest bytes of a number, the least significant one first. -/
def digs : Nat → Nat → List Nat
  | _, 0 => []
  | n, k + 1 => n % 256 :: digs (n / 256) k
theorem digs_snoc : ∀ (k n : Nat), digs n (k + 1) = digs n k ++ [n / 256 ^ k % 256]
  | 0, n => by simp [digs]
  | k + 1, n => by
    rw [digs, digs_snoc k (n / 256), digs, List.cons_append, Nat.div_div_eq_div_mul, Nat.pow_succ, Nat.mul_comm 256]
theorem len_digs : ∀ (k n : Nat), (digs n k).length = k
  | 0, _ => rfl
  | k + 1, n => by simp [digs, len_digs k]

set_option maxHeartbeats 400000 in
theorem appendDigits_any (base : Nat) (v : Value) (m x k : Nat) (xs : List Value) (w : World) (ho : w.ownsRow base 5 1 v m xs) (hx : x < 18446744073709551616) (hk : m + k ≤ 100000000) (hb : base ≤ w.heap.size) :
    Calls Try.prog 49 #[v, .int .u64 x, .int .i64 k] w fun e w' => ∃ v', e = .returned v' ∧ w'.ownsRow base 5 1 v' (m + k) (xs ++ U8 (digs x k)) ∧ w.grownBy w' v.ownBlock ∧ (∀ g, v'.ownBlock = some g → v.ownBlock = some g ∨ w.heap.size ≤ g) := by
  go_enter Try.func49, Try.ntmps49
  go_wp2_with fail
  go_loopw [0, 1, 8] (fun s y i wr => ∃ j z : Nat, j ≤ k ∧ i = .int .i64 (j : Int) ∧ y = .int .u64 (z : Int) ∧ Hid (z = x / 256 ^ j) ∧ z < 18446744073709551616 ∧ wr.ownsRow base 5 1 s (m + j) (xs ++ U8 (digs x j)) ∧ w.grownBy wr v.ownBlock ∧ (∀ g, s.ownBlock = some g → v.ownBlock = some g ∨ w.heap.size ≤ g))
    (fun _ _ i _ => k - (intOf i).toNat)
  case atStart => exact ⟨0, x, Nat.zero_le _, rfl, rfl, by simp [Hid], hx, by simpa [digs, U8] using ho, grown_refl' _ _, fun g h => .inl h⟩
  case round =>
    obtain ⟨j, z, hj, rfl, rfl, HZ, hz, hown, hgr, hbl⟩ := hrel
    have HB := Lib.hid hbl
    clear hbl
    by_cases hlt : j < k
    · have hs := hgr.size
      go_wp2_with (at_builtin; refine wpl_append rfl _ _ rfl el_u8 rfl (hown.alloc _) rfl (rd_one _ (.int .u8 ((z : Int) % 256)) _) ?_ ?_ ?_ ?_)
      · intro u hu; simp at hu; subst hu; rfl
      · omega
      · simp; omega
      intro v' w1 hown' hgrow hat
      have hs2 := hgrow.size
      simp only [World.size_alloc] at hs2 hat
      have R := own_row_step (grown_alloc' hgr _) HB.out hgrow (hat.imp id fun h => ⟨_, h, by simp⟩)
      have HR := Lib.hid R
      clear hown hgr hgrow hat R HB
      go_wp2
      go_roundw
      case rel =>
        refine ⟨j + 1, z / 256, by omega, by go_num, by go_num, ?_, by omega, ?_, HR.out.1, HR.out.2⟩
        · show z / 256 = x / 256 ^ (j + 1)
          rw [HZ.out, Nat.div_div_eq_div_mul, Nat.pow_succ]
        · rw [digs_snoc, ← HZ.out, U8_append, ← List.append_assoc]
          rw [← List.append_assoc] at hown'
          exact hown'
      case measure => simp [intOf]; omega
    · go_wp2
      go_ret
      have e : j = k := by omega
      subst e
      exact ⟨_, rfl, hown, hgr, HB.out⟩

/-- The number that is encoded for a length. -/
def lenOf (n : Int) : Nat := if n < 0 ∨ 4294967295 < n then 0 else n.toNat
theorem lenOf_out {n : Int} (h : n < 0 ∨ 4294967295 < n) : lenOf n = 0 := by simp [lenOf, h]
theorem lenOf_in {n : Int} (h : 0 ≤ n) (h2 : n ≤ 4294967295) : lenOf n = n.toNat := by
  unfold lenOf
  rw [if_neg (by omega)]
theorem lenOf_nat {n : Nat} (h : n ≤ 4294967295) : lenOf (n : Int) = n := by rw [lenOf_in (by omega) (by omega)]; omega
theorem lenOf_lt (n : Int) : lenOf n < 4294967296 := by unfold lenOf; split <;> omega

/-- What a call gives that appends to a row v of its caller's: the row with more cells; what it wrote. -/
def Adds (w : World) (v : Value) (base n : Nat) (xs : List Value) (e : Ending) (w' : World) : Prop :=
  ∃ v', e = .returned v' ∧ w'.ownsRow base 5 1 v' n xs ∧ w.grownBy w' v.ownBlock ∧ (∀ g, v'.ownBlock = some g → v.ownBlock = some g ∨ w.heap.size ≤ g)

set_option maxHeartbeats 400000 in
theorem appendLength_any (base : Nat) (v : Value) (m : Nat) (x : Int) (xs : List Value) (w : World) (ho : w.ownsRow base 5 1 v m xs) (hlo : -9223372036854775808 ≤ x) (hhi : x ≤ 9223372036854775807) (hk : m + 4 ≤ 100000000) (hb : base ≤ w.heap.size) :
    Calls Try.prog 48 #[v, .int .i64 x] w (Adds w v base (m + 4) (xs ++ U8 (digs (lenOf x) 4))) := by
  by_cases h0 : x < 0
  · have HE := Lib.hid (lenOf_out (.inl h0) : lenOf x = 0)
    go_enter Try.func48, Try.ntmps48
    go_wp2_with (go_at_call 49; refine (appendDigits_any base v m 0 4 xs w ho (by omega) hk hb).mono ?_; rintro e w' ⟨v', rfl, hown, hg, hv⟩)
    go_ret
    exact ⟨_, rfl, by rw [HE.out]; exact hown, hg, hv⟩
  · by_cases h1 : 4294967295 < x
    · have HE := Lib.hid (lenOf_out (.inr h1) : lenOf x = 0)
      go_enter Try.func48, Try.ntmps48
      go_wp2_with (go_at_call 49; refine (appendDigits_any base v m 0 4 xs w ho (by omega) hk hb).mono ?_; rintro e w' ⟨v', rfl, hown, hg, hv⟩)
      go_ret
      exact ⟨_, rfl, by rw [HE.out]; exact hown, hg, hv⟩
    · obtain ⟨y, rfl⟩ := Int.eq_ofNat_of_zero_le (show 0 ≤ x by omega)
      have HE := Lib.hid (lenOf_nat (by omega) : lenOf (y : Int) = y)
      go_enter Try.func48, Try.ntmps48
      go_wp2_with (go_at_call 49; refine (appendDigits_any base v m y 4 xs w ho (by omega) hk hb).mono ?_; rintro e w' ⟨v', rfl, hown, hg, hv⟩)
      go_ret
      exact ⟨_, rfl, by rw [HE.out]; exact hown, hg, hv⟩
end Go.Proofs.Ytkaecidnkkcbaaa

