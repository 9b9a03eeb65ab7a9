/-
  The document's side of layer 11: Value.
-/
import Derived.Test.YtkaecidnkkcbaaaWireF
namespace Go.Proofs.Ytkaecidnkkcbaaa
open Go.RowKit

theorem valOf_step (l : List Nat) (j : Nat) (h : j < l.length) : valOf (l.drop (j + 1)) * 256 + l[j] = valOf (l.drop j) := by
  rw [List.drop_eq_getElem_cons h, valOf]
  omega
theorem valOf_drop_lt {l : List Nat} (h : ∀ x ∈ l, x < 256) (hl : l.length ≤ 8) (j : Nat) : valOf (l.drop j) < 18446744073709551616 := by
  have h1 := valOf_lt (l.drop j) fun x hx => h x (List.mem_of_mem_drop hx)
  have h2 : (256 : Nat) ^ (l.drop j).length ≤ 256 ^ 8 := Nat.pow_le_pow_right (by omega) (by rw [List.length_drop]; omega)
  have h5 : (256 : Nat) ^ 8 = 18446744073709551616 := by decide
  omega

set_option maxHeartbeats 400000 in
theorem value_any (A : Option Addr) (n c : Nat) (l : List Nat) (w : World) (hr : Rd w 1 A n (U8 l)) (hl : ∀ x ∈ l, x < 256) (hn : n ≤ 8) :
    Calls Try.prog 31 #[.slice A n c] w fun e w' => e = .returned (.int .u64 (valOf l)) ∧ w = w' := by
  have hlen := hr.len1
  rw [len_U8] at hlen
  have HL := Lib.hid hlen
  clear hlen
  go_enter Try.func31, Try.ntmps31
  go_wp2_with fail
  go_loop [3, 4] (fun y i => ∃ j z : Nat, j ≤ n ∧ i = .int .i64 ((j : Int) - 1) ∧ y = .int .u64 (z : Int) ∧ Hid (z = valOf (l.drop j)) ∧ z < 18446744073709551616)
    (fun _ i => (intOf i + 1).toNat)
  case atStart => exact ⟨n, 0, Nat.le_refl _, rfl, rfl, by show _ = _; rw [List.drop_of_length_le (by rw [HL.out]; exact Nat.le_refl _)]; rfl, by omega⟩
  case round =>
    obtain ⟨j, z, hj, rfl, rfl, HZ, hz⟩ := hrel
    by_cases h0 : j = 0
    · subst h0
      have hd : decide ((0 : Int) ≤ ((0 : Nat) : Int) - 1) = false := by simp
      go_wp2
      go_ret
      exact ⟨by rw [← List.drop_zero (l := l), ← HZ.out]; rfl, rfl⟩
    · obtain ⟨k, rfl⟩ : ∃ k, j = k + 1 := ⟨j - 1, by omega⟩
      clear h0
      obtain ⟨ad, u, rfl, hu, hc⟩ := hr.at_ (show k < n by omega)
      have hkl : k < l.length := by rw [HL.out]; omega
      obtain ⟨y, hy⟩ : ∃ y, y = l[k] := ⟨_, rfl⟩
      have hyl : y < 256 := by rw [hy]; exact hl _ (List.getElem_mem _)
      rw [at_U8 hkl, ← hy] at hu
      injection hu with hu
      subst hu
      have HV : Hid (z * 256 + y = valOf (l.drop k)) := by
        show _ = _
        rw [HZ.out, hy]
        exact valOf_step l k hkl
      have hz2 : z * 256 + y < 18446744073709551616 := by rw [HV.out]; exact valOf_drop_lt hl (by rw [HL.out]; exact hn) k
      clear hy hr
      have ek : (((k + 1 : Nat) : Int) - 1) = (k : Int) := by omega
      rw [ek]
      go_wp2
      go_round
      case rel => exact ⟨k, z * 256 + y, by omega, rfl, by go_num, HV, hz2⟩
      case measure => simp [intOf]
end Go.Proofs.Ytkaecidnkkcbaaa

