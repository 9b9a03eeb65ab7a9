/-
  Walks of package wire: Uint, Int, List, Bytes; NewReader.
-/
import Derived.Test.YtkaecidnkkcbaaaWireA
namespace Go.Proofs.Ytkaecidnkkcbaaa
open Go.RowKit

/-- What a call gives that hands back a new row of n elements: the row; nothing that was there has changed. -/
def Gives (w : World) (el : TypeId) (size n : Nat) (xs : List Value) (e : Ending) (w' : World) : Prop :=
  ∃ v, e = .returned v ∧ w'.ownsRow w.heap.size el size v n xs ∧ Below w.heap.size w w'

/-- A new row that a second call has appended to. -/
theorem Gives.then_ {w w1 w2 : World} {v v' : Value} {n m : Nat} {xs ys : List Value} (hb : Below w.heap.size w w1) (hv : w1.ownsRow w.heap.size 5 1 v n xs)
    (hown : w2.ownsRow w.heap.size 5 1 v' m ys) (hg : w1.grownBy w2 v.ownBlock) : Gives w 5 1 m ys (.returned v') w2 :=
  ⟨v', rfl, hown, hb.grown hg hb.size fun k hk => (hv.lt k hk).1⟩

set_option maxHeartbeats 400000 in
theorem wInt_any (A : Option Addr) (n c : Nat) (x : Int) (xs : List Value) (w : World) (hr : Rd w 1 A n xs) (h1 : ∀ u ∈ xs, u.oneCell' = true) (hlo : -9223372036854775808 ≤ x) (hhi : x ≤ 9223372036854775807) (hk : n + 4 ≤ 100000000) :
    Calls Try.prog 38 #[.slice A n c, .int .i64 x] w (Gives w 5 1 (n + 4) (xs ++ U8 (digs (lenOf x) 4))) := by
  go_enter Try.func38, Try.ntmps38
  go_wp2_with (first | (go_at_call 45; refine (room_any A n c 4 xs w hr h1 hk).mono ?_; rintro e w1 ⟨v, rfl, hv, hb⟩) | (go_at_call 48; refine (appendLength_any w.heap.size _ n x xs w1 hv hlo hhi hk hb.size).mono ?_; rintro e w2 ⟨v2, rfl, hv2, hg, hw⟩))
  go_ret
  exact Gives.then_ hb hv hv2 hg

set_option maxHeartbeats 400000 in
theorem wList_any (A C : Option Addr) (n c m d : Nat) (xs : List Value) (l : List Nat) (w : World) (hr : Rd w 1 A n xs) (h1 : ∀ u ∈ xs, u.oneCell' = true) (hs : Rd w 1 C m (U64 l)) (hl : ∀ x ∈ l, x < 18446744073709551616) (hk : n + 4 + 8 * m ≤ 100000000) :
    Calls Try.prog 37 #[.slice A n c, .slice C m d] w (Gives w 5 1 (n + 4 + 8 * m) (xs ++ (U8 (digs m 4) ++ U8 (l.flatMap fun x => digs x 8)))) := by
  have HL := Lib.hid (lenOf_nat (by omega) : lenOf (m : Int) = m)
  have HR := Lib.hid (room_any A n c (4 + 8 * m) xs w hr h1 (by omega))
  have HT : Hid (((4 + 8 * m : Nat) : Int) = 4 + 8 * (m : Int)) := by simp [Hid]
  rw [HT.out] at HR
  have HM : Hid (l.length = m) := by have := hs.len1; rw [len_U64] at this; exact this
  go_enter Try.func37, Try.ntmps37
  go_wp2_with (first | (go_at_call 45; refine HR.out.mono ?_; rintro e w1 ⟨v, rfl, hv, hb⟩) | (go_at_call 48; refine (appendLength_any w.heap.size _ n m xs w1 hv (by omega) (by omega) (by omega) hb.size).mono ?_; rintro e w2 ⟨v2, rfl, hv2, hg, hw⟩; have hb2 : Below w.heap.size w w2 := hb.grown hg hb.size fun k hk => (hv.lt k hk).1))
  rw [HL.out] at hv2
  go_loopw [5, 19] (fun s i wr => ∃ j : Nat, j ≤ m ∧ i = .int .i64 (j : Int) ∧ wr.ownsRow w.heap.size 5 1 s (n + 4 + 8 * j) (xs ++ (U8 (digs m 4) ++ U8 ((l.take j).flatMap fun x => digs x 8))) ∧ Below w.heap.size w wr)
    (fun _ i _ => m - (intOf i).toNat)
  case atStart => exact ⟨0, Nat.zero_le _, rfl, by simpa [U8] using hv2, hb2⟩
  case round =>
    obtain ⟨j, hj, rfl, hown, hbr⟩ := hrel
    by_cases hlt : j < m
    · have hjl : j < l.length := by rw [HM.out]; exact hlt
      obtain ⟨ad, u, rfl, hu, hc⟩ := (hs.below hbr).at_ hlt
      obtain ⟨y, hy⟩ : ∃ y, y = l[j] := ⟨_, rfl⟩
      have hyl : y < 18446744073709551616 := by rw [hy]; exact hl _ (List.getElem_mem _)
      rw [at_U64 hjl, ← hy] at hu
      injection hu with hu
      subst hu
      have HY := Lib.hid hy
      clear hy
      go_wp2_with (go_at_call 49; refine (appendDigits_any w.heap.size _ _ y 8 _ _ hown hyl (by omega) hbr.size).mono ?_; rintro e w3 ⟨v3, rfl, hv3, hg3, hw3⟩)
      have hb3 : Below w.heap.size w w3 := hbr.grown hg3 hbr.size fun k hk => (hown.lt k hk).1
      clear hown hg3 hw3
      go_wp2
      go_roundw
      case rel =>
        refine ⟨j + 1, by omega, by go_num, ?_, hb3⟩
        rw [List.take_succ_eq_append_getElem hjl, ← HY.out, List.flatMap_append, U8_append, show n + 4 + 8 * (j + 1) = n + 4 + 8 * j + 8 from by omega]
        simpa using hv3
      case measure => simp [intOf]; omega
    · go_wp2
      go_ret
      have e : j = m := by omega
      subst e
      rw [List.take_of_length_le (by rw [HM.out]; exact Nat.le_refl _)] at hown
      exact ⟨_, rfl, hown, hbr⟩
end Go.Proofs.Ytkaecidnkkcbaaa

