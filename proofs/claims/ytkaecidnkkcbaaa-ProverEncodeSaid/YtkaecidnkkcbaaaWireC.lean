/-
  Walks of the reference of layer 11 that writes: Digits, Int, List, Bytes; Value; Same; and of the law's join.
-/
import Derived.Test.YtkaecidnkkcbaaaWireB
import Derived.Deep.QuietTactic
import Derived.BigQuiet
namespace Go.Proofs.Ytkaecidnkkcbaaa
open Go.RowKit

/-- The string of a list of bytes. -/
def S (l : List Nat) : ByteArray := ⟨(l.map fun n => UInt8.ofNat n).toArray⟩
theorem S_toList (l : List Nat) : (S l).toList = l.map fun n => UInt8.ofNat n := by
  rw [ByteArray.toList_eq]; simp [S]
theorem S_size (l : List Nat) : (S l).size = l.length := by simp [S, ByteArray.size]
theorem S_append (l m : List Nat) : S l ++ S m = S (l ++ m) := by
  unfold S
  rw [ByteArray.mk_append_mk, List.map_append]
theorem S_eq {l m : List Nat} (h : l = m) : ((S l).toList == (S m).toList) = true := by subst h; simp

theorem run_str_rd {P : Program} {w : World} {src e dst : TypeId} {A : Option Addr} {n c : Nat} {l : List Nat} (hs : P.underlying src = some (.slice e)) (he : P.underlying e = some (.int .u8)) (hd : P.underlying dst = some .string)
    (h : Rd w 1 A n (U8 l)) : (convert src dst (.slice A n c)).run P w = .ok (.string (S l)) w := by
  have hl : l.length = n := by have := h.len1; rwa [len_U8] at this
  rcases Nat.eq_zero_or_pos n with h0 | h0
  · subst h0
    obtain rfl : l = [] := List.eq_nil_of_length_eq_zero hl
    rcases A with _ | ad
    · rw [run_convert_bytes_nil w src e hs he _ _ dst hd]
      rfl
    · rw [run_convert_bytes_string w src dst e _ 0 c hs he hd, run_bytesToString w ad 0 c [] (by simpa using run_loadCells_list (P := P) w ad [] (fun j v hj => by simp at hj))]
      rfl
  · obtain ⟨ad, rfl, hc⟩ := h.2 h0
    have hlc := run_loadCells_list (P := P) w ad (U8 l) hc
    rw [len_U8, hl] at hlc
    rw [run_convert_bytes_string w src dst e _ n c hs he hd, run_bytesToString w ad n c (l.map fun x : Nat => (x : Int)) (by rw [hlc]; simp [U8, Function.comp_def]), foldl_push_bytes]
    simp [S, ByteArray.empty, ByteArray.emptyWithCapacity, Function.comp_def]
    rfl

set_option maxHeartbeats 400000 in
theorem rDigits_any (x k : Nat) (w : World) (hx : x < 18446744073709551616) (hk : k ≤ 100000000) :
    Calls Try.prog 39 #[.int .u64 x, .int .i64 k] w (Gives w 5 1 k (U8 (digs x k))) := by
  go_enter Try.func39, Try.ntmps39
  go_wp2_with fail
  go_loopw [0, 5, 6] (fun y s i wr => ∃ j z : Nat, j ≤ k ∧ i = .int .i64 (j : Int) ∧ y = .int .u64 (z : Int) ∧ Hid (z = x / 256 ^ j) ∧ z < 18446744073709551616 ∧ wr.ownsRow w.heap.size 5 1 s j (U8 (digs x j)) ∧ Below w.heap.size w wr)
    (fun _ _ i _ => k - (intOf i).toNat)
  case atStart => exact ⟨0, x, Nat.zero_le _, rfl, rfl, by simp [Hid], hx, World.ownsRow_nil _ _ _ _, Below.refl _ _⟩
  case round =>
    obtain ⟨j, z, hj, rfl, rfl, HZ, hz, hown, hb⟩ := hrel
    by_cases hlt : j < k
    · have hs := hb.size
      go_wp2_with (at_builtin; refine wpl_append rfl _ _ rfl el_u8 rfl (hown.alloc _) rfl (rd_one _ (.int .u8 ((z : Int) % 256)) _) ?_ ?_ ?_ ?_)
      · intro u hu; simp at hu; subst hu; rfl
      · omega
      · simp; omega
      intro v' w1 hown' hgrow hat
      have hb1 : Below w.heap.size w w1 := (hb.alloc hs _).grown hgrow (by simp; omega) fun g hg => (hown.lt g hg).1
      clear hown hgrow hat hb hs
      go_wp2
      go_roundw
      case rel =>
        refine ⟨j + 1, z / 256, by omega, by go_num, by go_num, ?_, by omega, ?_, hb1⟩
        · show z / 256 = x / 256 ^ (j + 1)
          rw [HZ.out, Nat.div_div_eq_div_mul, Nat.pow_succ]
        · rw [digs_snoc, ← HZ.out, U8_append]
          exact hown'
      case measure => simp [intOf]; omega
    · go_wp2
      go_ret
      have e : j = k := by omega
      subst e
      exact ⟨_, rfl, hown, hb⟩

end Go.Proofs.Ytkaecidnkkcbaaa
