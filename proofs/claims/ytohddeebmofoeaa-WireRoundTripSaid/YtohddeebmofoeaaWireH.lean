/-
  Walk of package wire's reader: List.
-/
import Derived.Test.YtohddeebmofoeaaWireG
namespace Go.Proofs.Ytohddeebmofoeaa
open Go.RowKit

/-- Reading n numbers, each less than p, behind those that were read. -/
def rdWords (p : Nat) : Nat → List Nat → List Nat → List Nat × List Nat × Bool
  | 0, acc, l => (acc, l, false)
  | n + 1, acc, l => if p ≤ valOf (l.take 8) then ([], l.drop 8, true) else rdWords p n (acc ++ [valOf (l.take 8)]) (l.drop 8)
def rdList (most : Int) (p : Nat) (l : List Nat) (f : Bool) : List Nat × List Nat × Bool :=
  if (rdInt most l f).2.2 = true ∨ (rdInt most l f).2.1.length / 8 < (rdInt most l f).1 then ([], (rdInt most l f).2.1, true)
  else rdWords p (rdInt most l f).1 [] (rdInt most l f).2.1

theorem made_u64 (n : Nat) : madeCells #[.int .u64 0] n = (U64 (List.replicate n 0)).toArray := by
  apply Array.ext
  · simp [size_madeCells, U64]
  · intro i h1 h2
    simp [madeCells, U64, Nat.mod_one]
theorem World.heap_drewN' (w : World) (k : Nat) : (w.drewN k).heap.size = w.heap.size := rfl
theorem U64_set (l m : List Nat) (x : Nat) (j : Nat) (h : l.length = j) : (U64 (l ++ 0 :: m)).set j (.int .u64 (x : Int)) = U64 (l ++ x :: m) := by
  subst h
  simp [U64]
theorem rep_succ {n j : Nat} (h : j < n) : List.replicate (n - j) (0 : Nat) = 0 :: List.replicate (n - (j + 1)) 0 := by
  rw [show n - j = (n - (j + 1)) + 1 from by omega, List.replicate_succ]

set_option maxHeartbeats 1000000 in
theorem rdList_any (g : Nat) (bd : Nat × Nat) (p0 : Nat) (most : Int) (l : List Nat) (f : Bool) (w : World) (h : WR w g bd l f) :
    Calls Try.prog 27 #[.pointer (some ⟨g, 0, none⟩), .int .i64 most, .int .u64 p0] w fun e w' => ∃ v, e = .returned v ∧ w'.ownsRow w.heap.size 23 1 v (rdList most p0 l f).1.length (U64 (rdList most p0 l f).1) ∧ WR w' g bd (rdList most p0 l f).2.1 (rdList most p0 l f).2.2 ∧ w.grownBy w' (some g) := by
  obtain ⟨i0, hi, hz0, hz1, hz2⟩ := info_parts info_u64
  have hv : (rdInt most l f).1 < 4294967296 := rdInt_lt h.bytes
  have HD := Lib.hid (rdInt_any g bd most l f w h)
  obtain ⟨⟨v, l', f'⟩, hD⟩ : ∃ x, x = rdInt most l f := ⟨_, rfl⟩
  rw [← hD] at HD hv
  have HU : Hid (rdList most p0 l f = if f' = true ∨ l'.length / 8 < v then ([], l', true) else rdWords p0 v [] l') := by simp only [Hid, rdList, ← hD]
  clear hD h
  simp only at hv
  cases f' with
  | true =>
    have HE : Hid (rdList most p0 l f = ([], l', true)) := by simp only [Hid, HU.out]; simp
    rw [HE.out]
    go_enter Try.func27, Try.ntmps27
    go_wp2_with fail
    refine HD.out.mono ?_
    rintro e w1 ⟨rfl, hw1, hg1⟩
    have c2 := hw1.cell2
    have fr := hw1.free 2
    go_wp2
    go_ret
    exact ⟨_, rfl, World.ownsRow_nil _ _ _ _, hw1.fail, grown_setCell' (p := ⟨g, 2, none⟩) hg1 (.inl rfl) _⟩
  | false =>
    by_cases hs : l'.length / 8 < v
    · have HE : Hid (rdList most p0 l f = ([], l', true)) := by simp only [Hid, HU.out]; rw [if_pos (.inr hs)]
      rw [HE.out]
      go_enter Try.func27, Try.ntmps27
      go_wp2_with fail
      refine HD.out.mono ?_
      rintro e w1 ⟨rfl, hw1, hg1⟩
      have c2 := hw1.cell2
      have hw2 := hw1
      obtain ⟨A, n, c, p, L, hb, hr, hA, ⟨hp, hnc⟩, hn, hl', hL⟩ := hw2
      have hlen := hr.len1
      rw [len_U8] at hlen
      have hln : l'.length = n - p := by rw [← hl', List.length_drop, hlen]
      have h5 : (n - p) / 8 < v := by omega
      have fr := hw1.free 2
      have H1 := Lib.hid hw1
      clear hlen hln hl' hw1
      go_wp2_with (go_at_call 33; refine (left_any g n c p A false w1 hb hp hn).mono ?_; rintro e w2 ⟨rfl, kk, rfl⟩)
      go_ret
      exact ⟨_, rfl, World.ownsRow_nil _ _ _ _, (WR.drewN H1.out kk).fail, grown_setCell' (p := ⟨g, 2, none⟩) (grown_drewN' hg1 _) (.inl rfl) _⟩
    · have HE : Hid (rdList most p0 l f = rdWords p0 v [] l') := by simp only [Hid, HU.out]; rw [if_neg (by simp; omega)]
      rw [HE.out]
      have hmk : v ≤ 10000000 → ∀ u : World, (Instr.makeSlice 31 (.int .i64 (v : Int)) (.int .i64 (v : Int))).run Try.prog u =
          .ok (.slice (some ⟨u.heap.size, 0, none⟩) v v) (u.alloc (.cells (U64 (List.replicate v 0)).toArray 23)) := fun hv2 u => by
        have h := run_make (P := Try.prog) u 31 23 i0 (.int .u64 0) Try.underlying31 hi hz0 .i64 .i64 (v : Int) (v : Int) (by omega) (by omega) (by rw [hz2]; omega) (by omega)
        rw [Int.toNat_natCast, hz1, Nat.mul_one] at h
        rw [h, ← made_u64]
        rfl
      go_enter Try.func27, Try.ntmps27
      go_wp2_with fail
      refine HD.out.mono ?_
      rintro e w1 ⟨rfl, hw1, hg1⟩
      have c2 := hw1.cell2
      have hw2 := hw1
      obtain ⟨A, n, c, p, L, hb, hr, hA, ⟨hp, hnc⟩, hn, hl', hL⟩ := hw2
      have hlen := hr.len1
      rw [len_U8] at hlen
      have hln : l'.length = n - p := by rw [← hl', List.length_drop, hlen]
      have h5 : v ≤ (n - p) / 8 := by omega
      have h6 : 8 * v ≤ l'.length := by omega
      have hmk2 := hmk (by omega)
      have H1 := Lib.hid hw1
      have hgs := hg1.size
      clear hmk hlen hl' hw1 hs
      go_wp2_with (go_at_call 33; refine (left_any g n c p A false w1 hb hp hn).mono ?_; rintro e w2 ⟨rfl, kk, rfl⟩)
      have hB0 := Blk.new (w1.drewN kk) 23 (U64 (List.replicate v 0)).toArray
      have hW0 := (H1.out.drewN kk).below ((Below.refl _ _).alloc (Nat.le_refl _) (.cells (U64 (List.replicate v 0)).toArray 23)) (Nat.le_refl _)
      have hG0 := grown_alloc' (grown_drewN' hg1 kk) (.cells (U64 (List.replicate v 0)).toArray 23)
      have hgr : g < w1.heap.size := H1.out.lt
      obtain ⟨gr, hgrE⟩ : ∃ gr, gr = w1.heap.size := ⟨_, rfl⟩
      have hgr1 : g < gr := by omega
      have hgr2 : w.heap.size ≤ gr := by omega
      have hbg : bd.2 ≤ g := hA.2
      rw [World.heap_drewN', ← hgrE] at hB0
      rw [← hgrE]
      clear hmk2 c2 hb hr hA hL hgrE
      go_loopw [31] (fun i wr => ∃ (j : Nat) (acc lc : List Nat), j ≤ v ∧ i = .int .i64 (j : Int) ∧ acc.length = j ∧ Hid (rdWords p0 v [] l' = rdWords p0 (v - j) acc lc) ∧ 8 * (v - j) ≤ lc.length ∧ WR wr g bd lc false ∧ Blk wr gr 23 (U64 (acc ++ List.replicate (v - j) 0)).toArray ∧ w.grownBy wr (some g))
        (fun i _ => v - (intOf i).toNat)
      case atStart => exact ⟨0, [], l', Nat.zero_le _, rfl, rfl, rfl, by omega, hW0, hB0, hG0⟩
      case round =>
        obtain ⟨j, acc, lc, hj, rfl, hja, HR, hlc, hw, hbk, hgw⟩ := hrel
        clear hW0 hB0 hG0
        have HJ := Lib.hid hja
        clear hja
        by_cases hlt : j < v
        · have hd : rdDig 8 lc false = (valOf (lc.take 8), true, lc.drop 8, false) := by rw [rdDig, if_neg (by simp; omega)]
          have HC := Lib.hid (digits_any g bd 8 lc false wr hw (by omega))
          rw [hd] at HC
          have hvl : valOf (lc.take 8) < 18446744073709551616 := by
            have := rdDig_lt (k := 8) (f := false) hw.bytes
            rw [hd] at this
            exact this
          obtain ⟨x, hx⟩ : ∃ x, x = valOf (lc.take 8) := ⟨_, rfl⟩
          rw [← hx] at HC hvl
          have HR2 : Hid (rdWords p0 v [] l' = if p0 ≤ x then ([], lc.drop 8, true) else rdWords p0 (v - (j + 1)) (acc ++ [x]) (lc.drop 8)) := by
            show _ = _
            rw [HR.out, show v - j = (v - (j + 1)) + 1 from by omega, rdWords, ← hx]
          clear hd hw hx HR
          go_wp2_with fail
          refine HC.out.mono ?_
          rintro e w3 ⟨rfl, hw3, hg3⟩
          have hbk3 := hbk.grown hg3 (by simp; omega)
          have cj := hbk3.cell j
          have fj := hbk3.frozen j
          have c2 := hw3.cell2
          have fr := hw3.free 2
          rw [List.getElem?_toArray, at_U64 (by rw [List.length_append, List.length_replicate, HJ.out]; omega)] at cj
          have hbk4 := hbk3.set_ j (.int .u64 (x : Int))
          rw [rep_succ hlt, List.setIfInBounds_toArray, U64_set acc _ x j HJ.out] at hbk4
          have hw4 : WR (w3.setCell ⟨gr, j, none⟩ (.int .u64 (x : Int))) g bd (lc.drop 8) false := hw3.grown (row := some gr) (grown_setCell' (p := ⟨gr, j, none⟩) (grown_refl' _ _) (.inl rfl) _) fun k hk => by injection hk with hk; subst hk; exact ⟨by omega, .inl (by omega)⟩
          have hg4 := grown_setCell' (p := ⟨gr, j, none⟩) (grown_step hgw hg3 fun k hk => .inl hk) (.inr hgr2) (.int .u64 (x : Int))
          clear hbk hbk3 hw3 hgw hg3 HC
          have hnf := hw4.free 2
          have c24 := hw4.cell2
          by_cases hpx : p0 ≤ x
          · have HE2 : Hid (rdWords p0 v [] l' = ([], lc.drop 8, true)) := by
              show _ = _
              rw [HR2.out, if_pos hpx]
            go_wp2
            go_ret
            rw [HE2.out]
            exact ⟨_, rfl, World.ownsRow_nil _ _ _ _, hw4.fail, grown_setCell' (p := ⟨g, 2, none⟩) hg4 (.inl rfl) _⟩
          · have HR3 : Hid (rdWords p0 v [] l' = rdWords p0 (v - (j + 1)) (acc ++ [x]) (lc.drop 8)) := by
              show _ = _
              rw [HR2.out, if_neg hpx]
            have hlc2 : 8 * (v - (j + 1)) ≤ (lc.drop 8).length := by rw [List.length_drop]; omega
            have hja2 := Lib.hid (show (acc ++ [x]).length = j + 1 by rw [List.length_append, HJ.out]; rfl)
            have HB4 := Lib.hid hbk4
            clear hbk4 HR2
            go_wp2
            go_roundw
            case rel =>
              refine ⟨j + 1, acc ++ [x], lc.drop 8, by omega, by go_num, hja2.out, HR3, hlc2, hw4, ?_, hg4⟩
              have hB := HB4.out
              rw [show acc ++ x :: List.replicate (v - (j + 1)) 0 = acc ++ [x] ++ List.replicate (v - (j + 1)) 0 from by simp] at hB
              exact hB
            case measure => simp [intOf]; omega
        · have e : j = v := by omega
          subst e
          have HE2 : Hid (rdWords p0 j [] l' = (acc, lc, false)) := by
            show _ = _
            rw [HR.out, Nat.sub_self, rdWords]
          rw [Nat.sub_self, List.replicate_zero, List.append_nil] at hbk
          have HB := Lib.hid hbk
          clear hbk
          go_wp2
          go_ret
          rw [HE2.out]
          refine ⟨_, rfl, ?_, hw, hgw⟩
          show World.ownsRow _ _ _ _ _ acc.length _
          rw [HJ.out]
          exact ⟨by rw [len_U64, HJ.out, Nat.mul_one], .inr ⟨gr, j, _, rfl, hgr2, HB.out, Nat.le_refl _, by simp [maxLen]; omega, by rw [List.size_toArray, len_U64, HJ.out, Nat.mul_one], by rw [Nat.mul_one, List.take_of_length_le (by simp [len_U64, HJ.out])]⟩⟩
end Go.Proofs.Ytohddeebmofoeaa
