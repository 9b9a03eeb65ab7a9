/-
  Proofs as data; ref27.reduced, lists, depth, ref26.Lengths, prover.below, levels.
-/
import Derived.Test.YtkaecidnkkcbaaaRefM
namespace Go.Proofs.Ytkaecidnkkcbaaa
open Go.RowKit

def redOk (l : List Nat) (n : Int) (p : Nat) : Bool := l.all (fun x => decide (x < p)) && ((l.length : Int) == n)
def listsOk (ls : List (List Nat)) (m n : Int) (p : Nat) : Bool := ls.all (fun l => redOk l n p) && ((ls.length : Int) == m)

theorem all_lt_false {l : List Nat} {p j : Nat} (hj : j < l.length) (h : p ≤ l.getD j 0) : l.all (fun x => decide (x < p)) = false := by
  refine List.all_eq_false.2 ⟨l[j], List.getElem_mem hj, ?_⟩
  simp [List.getD_eq_getElem?_getD, List.getElem?_eq_getElem hj] at h
  simp
  omega
theorem all_lt_true {l : List Nat} {p : Nat} (h : ∀ k < l.length, l.getD k 0 < p) : l.all (fun x => decide (x < p)) = true := by
  refine List.all_eq_true.2 fun x hx => ?_
  obtain ⟨k, hk, rfl⟩ := List.getElem_of_mem hx
  have := h k hk
  simp [List.getD_eq_getElem?_getD, List.getElem?_eq_getElem hk] at this
  simpa using this
theorem ext_lt {l : List Nat} {p j : Nat} (h : ∀ k < j, l.getD k 0 < p) (hj : ¬ p ≤ l.getD j 0) : ∀ k < j + 1, l.getD k 0 < p := fun k hk => by
  rcases Nat.lt_or_ge k j with h1 | h1
  · exact h k h1
  · have e : k = j := by omega
    rw [e]; omega
/-- A word of a list that lies in memory. -/
theorem word_at {w : World} {A : Option Addr} {n c : Nat} {l : List Nat} (h : RWd w [.slice A n c] l) : n = l.length ∧ n ≤ c ∧ c ≤ maxLen ∧ (∀ x ∈ l, x < 18446744073709551616) ∧ Rd w 1 A n (U64 l) := by
  obtain ⟨A', n', c', he, h1, h2, h3, h4⟩ := h
  simp at he
  obtain ⟨rfl, rfl, rfl⟩ := he
  have := h3.len1
  rw [len_U64] at this
  exact ⟨this.symm, h1, h2, h4, h3⟩
theorem word_get {w : World} {A : Option Addr} {l : List Nat} (h : Rd w 1 A l.length (U64 l)) {j : Nat} (hj : j < l.length) : ∃ b q, A = some ⟨b, q, none⟩ ∧ b < w.heap.size ∧ w.cell? ⟨b, q + j, none⟩ = some (.int .u64 ((l.getD j 0 : Nat) : Int)) := by
  obtain ⟨b, q, e, hb, hc⟩ := rd_base h (by omega)
  refine ⟨b, q, e, hb, ?_⟩
  rw [hc j hj, at_U64 hj, List.getD_eq_getElem?_getD, List.getElem?_eq_getElem hj]
  rfl
theorem max_int {n c : Nat} (h1 : n ≤ c) (h2 : c ≤ maxLen) : (n : Int) ≤ 9223372036854775807 := by
  simp [maxLen] at h2
  omega

set_option maxRecDepth 100000 in
set_option maxHeartbeats 1000000 in
theorem reduced_any (A : Option Addr) (n c : Nat) (l : List Nat) (m : Int) (p : Nat) (w : World) (hl : RWd w [.slice A n c] l) :
    Calls Try.prog 25 #[.slice A n c, .int .i64 m, .int .u64 p] w fun e w' => e = .returned (.bool (redOk l m p)) ∧ w = w' := by
  obtain ⟨rfl, h1, h2, -, hrd⟩ := word_at hl
  have gm := max_int h1 h2
  clear hl h1 h2
  go_enter Try.func25, Try.ntmps25
  go_wp2_with fail
  go_loop [7] (fun i => ∃ j : Nat, j ≤ l.length ∧ i = .int .i64 (j : Int) ∧ Hid (∀ k < j, l.getD k 0 < p)) (fun i => l.length - (intOf i).toNat)
  case atStart => exact ⟨0, Nat.zero_le _, rfl, fun k hk => by omega⟩
  case round =>
    obtain ⟨j, hj, rfl, HB⟩ := hrel
    by_cases hlt : j < l.length
    · obtain ⟨b, q, rfl, hbl, hc⟩ := word_get hrd hlt
      have HL := Lib.hid hlt
      have g1 : (0 : Int) ≤ (j : Int) := by omega
      have g2 : (j : Int) < (l.length : Int) := by omega
      revert hc
      generalize hy : l.getD j 0 = y
      intro hc
      have HY := Lib.hid hy
      clear hy hrd
      by_cases z : p ≤ y
      · have HZ := Lib.hid (show redOk l m p = false by unfold redOk; rw [all_lt_false hlt (by rw [HY.out]; exact z)]; rfl)
        have d1 : decide ((p : Int) ≤ (y : Int)) = true := decide_eq_true (by omega)
        go_wp2
        go_ret
        exact ⟨by rw [HZ.out]; rfl, rfl⟩
      · have HZ := Lib.hid (ext_lt HB.out (by rw [HY.out]; exact z))
        have d1 : decide ((p : Int) ≤ (y : Int)) = false := decide_eq_false (by omega)
        go_wp2
        go_round
        case rel => exact ⟨j + 1, by omega, by go_num, HZ.out⟩
        case measure => simp [intOf]; omega
    · have e : j = l.length := by omega
      have HA := Lib.hid (all_lt_true (l := l) (p := p) (fun k hk => HB.out k (by omega)))
      by_cases z : (l.length : Int) = m
      · have g : ((l.length : Int) == m) = true := by rw [beq_iff_eq]; exact z
        have HZ := Lib.hid (show redOk l m p = true by unfold redOk; rw [HA.out, g]; rfl)
        clear z hrd
        go_wp2
        go_ret
        exact ⟨by rw [HZ.out]; rfl, rfl⟩
      · have g : ((l.length : Int) == m) = false := by rw [beq_eq_false_iff_ne]; exact z
        have HZ := Lib.hid (show redOk l m p = false by unfold redOk; rw [HA.out, g]; rfl)
        clear z hrd
        go_wp2
        go_ret
        exact ⟨by rw [HZ.out]; rfl, rfl⟩

set_option maxRecDepth 100000 in
set_option maxHeartbeats 1000000 in
theorem below_any (A : Option Addr) (n c : Nat) (l : List Nat) (p : Nat) (w : World) (hl : RWd w [.slice A n c] l) :
    Calls Try.prog 23 #[.slice A n c, .int .u64 p] w fun e w' => e = .returned (.bool (l.all (fun x => decide (x < p)))) ∧ w = w' := by
  obtain ⟨rfl, h1, h2, -, hrd⟩ := word_at hl
  have gm := max_int h1 h2
  clear hl h1 h2
  go_enter Try.func23, Try.ntmps23
  go_wp2_with fail
  go_loop [9] (fun i => ∃ j : Nat, j ≤ l.length ∧ i = .int .i64 (j : Int) ∧ Hid (∀ k < j, l.getD k 0 < p)) (fun i => l.length - (intOf i).toNat)
  case atStart => exact ⟨0, Nat.zero_le _, rfl, fun k hk => by omega⟩
  case round =>
    obtain ⟨j, hj, rfl, HB⟩ := hrel
    by_cases hlt : j < l.length
    · obtain ⟨b, q, rfl, hbl, hc⟩ := word_get hrd hlt
      have HL := Lib.hid hlt
      have g1 : (0 : Int) ≤ (j : Int) := by omega
      have g2 : (j : Int) < (l.length : Int) := by omega
      revert hc
      generalize hy : l.getD j 0 = y
      intro hc
      have HY := Lib.hid hy
      clear hy hrd
      by_cases z : p ≤ y
      · have HZ := Lib.hid (all_lt_false (p := p) hlt (by rw [HY.out]; exact z))
        have d1 : decide ((p : Int) ≤ (y : Int)) = true := decide_eq_true (by omega)
        go_wp2
        go_ret
        exact ⟨by rw [HZ.out]; rfl, rfl⟩
      · have HZ := Lib.hid (ext_lt HB.out (by rw [HY.out]; exact z))
        have d1 : decide ((p : Int) ≤ (y : Int)) = false := decide_eq_false (by omega)
        go_wp2
        go_round
        case rel => exact ⟨j + 1, by omega, by go_num, HZ.out⟩
        case measure => simp [intOf]; omega
    · have e : j = l.length := by omega
      have HA := Lib.hid (all_lt_true (l := l) (p := p) (fun k hk => HB.out k (by omega)))
      clear hrd
      go_wp2
      go_ret
      exact ⟨by rw [HA.out]; rfl, rfl⟩

set_option maxRecDepth 100000 in
set_option maxHeartbeats 1000000 in
theorem lists_any (A : Option Addr) (n c : Nat) (ls : List (List Nat)) (m k : Int) (p : Nat) (w : World) (hl : RSl 1 RWd w [.slice A n c] ls) :
    Calls Try.prog 26 #[.slice A n c, .int .i64 m, .int .i64 k, .int .u64 p] w fun e w' => e = .returned (.bool (listsOk ls m k p)) ∧ w = w' := by
  obtain ⟨A', n', c', he, hlen, hnc, hmx, hrd⟩ := hl
  simp at he
  obtain ⟨rfl, rfl, rfl⟩ := he
  subst hlen
  have gm := max_int hnc hmx
  clear hnc hmx
  go_enter Try.func26, Try.ntmps26
  go_wp2_with fail
  go_loop [9] (fun i => ∃ j : Nat, j ≤ ls.length ∧ i = .int .i64 (j : Int) ∧ Hid (∀ k' < j, ∀ h : k' < ls.length, redOk ls[k'] k p = true)) (fun i => ls.length - (intOf i).toNat)
  case atStart => exact ⟨0, Nat.zero_le _, rfl, fun k hk => by omega⟩
  case round =>
    obtain ⟨j, hj, rfl, HB⟩ := hrel
    by_cases hlt : j < ls.length
    · obtain ⟨b, q, rfl⟩ := hrd.base (by omega) (by omega)
      obtain ⟨cs, hl1, hc, hr⟩ := hrd.get hlt
      have hr' := hr
      obtain ⟨A1, n1, c1, rfl, -⟩ := hr
      have c0 := hc 0 (by omega)
      simp at c0
      have HL := Lib.hid hlt
      have g1 : (0 : Int) ≤ (j : Int) := by omega
      have g2 : (j : Int) < (ls.length : Int) := by omega
      have HR := Lib.hid (fun w (h : RWd w [.slice A1 n1 c1] ls[j]) => reduced_any A1 n1 c1 ls[j] k p w h)
      clear hc hrd hl1
      cases hb : redOk ls[j] k p
      · have HZ := Lib.hid (show listsOk ls m k p = false by
          unfold listsOk
          rw [List.all_eq_false.2 ⟨ls[j], List.getElem_mem hlt, by rw [hb]; exact Bool.noConfusion⟩]
          rfl)
        have HBB := Lib.hid hb
        clear hb
        go_wp2_with fail
        refine (HR.out _ hr').mono ?_
        rintro e w1 ⟨rfl, rfl⟩
        rw [HBB.out]
        go_wp2
        go_ret
        exact ⟨by rw [HZ.out]; rfl, rfl⟩
      · have HBB := Lib.hid hb
        clear hb
        go_wp2_with fail
        refine (HR.out _ hr').mono ?_
        rintro e w1 ⟨rfl, rfl⟩
        rw [HBB.out]
        go_wp2
        go_round
        case rel =>
          refine ⟨j + 1, by omega, by go_num, fun k' hk h => ?_⟩
          rcases Nat.lt_or_ge k' j with h5 | h5
          · exact HB.out k' h5 h
          · have e : k' = j := by omega
            subst e
            exact HBB.out
        case measure => simp [intOf]; omega
    · have e : j = ls.length := by omega
      have HA := Lib.hid (show ls.all (fun l => redOk l k p) = true from List.all_eq_true.2 fun x hx => by obtain ⟨k', hk, rfl⟩ := List.getElem_of_mem hx; exact HB.out k' (by omega) hk)
      by_cases z : (ls.length : Int) = m
      · have g : ((ls.length : Int) == m) = true := by rw [beq_iff_eq]; exact z
        have HZ := Lib.hid (show listsOk ls m k p = true by unfold listsOk; rw [HA.out, g]; rfl)
        clear z hrd
        go_wp2
        go_ret
        exact ⟨by rw [HZ.out]; rfl, rfl⟩
      · have g : ((ls.length : Int) == m) = false := by rw [beq_eq_false_iff_ne]; exact z
        have HZ := Lib.hid (show listsOk ls m k p = false by unfold listsOk; rw [HA.out, g]; rfl)
        clear z hrd
        go_wp2
        go_ret
        exact ⟨by rw [HZ.out]; rfl, rfl⟩
end Go.Proofs.Ytkaecidnkkcbaaa

