/-
  Walks of the reference's reader: Uint, Int, Bytes.
-/
import Derived.Test.YtohddeebmofoeaaWireL
namespace Go.Proofs.Ytohddeebmofoeaa
open Go.RowKit

set_option maxHeartbeats 400000 in
theorem refUint_any (g bd : Nat) (most : Nat) (l : List Nat) (f : Bool) (w : World) (h : RR w g bd l f) :
    Calls Try.prog 34 #[.pointer (some ⟨g, 0, none⟩), .int .u64 most] w fun e w' => e = .returned (.int .u64 (rdUint most l f).1) ∧ RR w' g bd (rdUint most l f).2.1 (rdUint most l f).2.2 ∧ w.grownBy w' (some g) := by
  have hbt := rdTake_bytes (k := 8) (f := f) h.bytes
  have hln : (rdTake 8 l f).1.length ≤ 8 := rdTake_len
  have HT := Lib.hid (take_any g bd 8 l f w h (by omega))
  have HU := Lib.hid (rdUint_take most l f)
  obtain ⟨⟨t, l', f'⟩, hT⟩ : ∃ x, x = rdTake 8 l f := ⟨_, rfl⟩
  rw [← hT] at HT HU hbt hln
  simp only at hbt hln
  have hvl : valOf t < 18446744073709551616 := by
    have h1 := valOf_lt t hbt
    have h2 : (256 : Nat) ^ t.length ≤ 256 ^ 8 := Nat.pow_le_pow_right (by omega) hln
    have h3 : (256 : Nat) ^ 8 = 18446744073709551616 := by decide
    omega
  obtain ⟨v, hv⟩ : ∃ v, v = valOf t := ⟨_, rfl⟩
  have HV := Lib.hid hv
  rw [← hv] at HU hvl
  clear hT hv h
  cases f' with
  | true =>
    have HE : Hid (rdUint most l f = (0, l', true)) := by show _ = _; rw [HU.out]; simp
    rw [HE.out]
    go_enter Try.func34, Try.ntmps34
    go_wp2_with fail
    refine HT.out.mono ?_
    rintro e w1 ⟨A1, c1, rfl, hr1, hw1, hg1, _⟩
    have c2 := hw1.cell1
    have fr := hw1.free 1
    go_wp2_with fail
    refine (value_any A1 _ c1 t w1 hr1 hbt (by show t.length ≤ 8; omega)).mono ?_
    rintro e w2 ⟨rfl, rfl⟩
    rw [← HV.out]
    go_wp2
    go_ret
    exact ⟨rfl, hw1.fail, grown_setCell' (p := ⟨g, 1, none⟩) hg1 (.inl rfl) _⟩
  | false =>
    by_cases hm : most < v
    · have HE : Hid (rdUint most l f = (0, l', true)) := by show _ = _; rw [HU.out, if_pos (.inr hm)]
      rw [HE.out]
      go_enter Try.func34, Try.ntmps34
      go_wp2_with fail
      refine HT.out.mono ?_
      rintro e w1 ⟨A1, c1, rfl, hr1, hw1, hg1, _⟩
      have c2 := hw1.cell1
      have fr := hw1.free 1
      go_wp2_with fail
      refine (value_any A1 _ c1 t w1 hr1 hbt (by show t.length ≤ 8; omega)).mono ?_
      rintro e w2 ⟨rfl, rfl⟩
      rw [← HV.out]
      go_wp2
      go_ret
      exact ⟨rfl, hw1.fail, grown_setCell' (p := ⟨g, 1, none⟩) hg1 (.inl rfl) _⟩
    · have HE : Hid (rdUint most l f = (v, l', false)) := by show _ = _; rw [HU.out, if_neg (by simp; omega)]
      rw [HE.out]
      go_enter Try.func34, Try.ntmps34
      go_wp2_with fail
      refine HT.out.mono ?_
      rintro e w1 ⟨A1, c1, rfl, hr1, hw1, hg1, _⟩
      have c2 := hw1.cell1
      go_wp2_with fail
      refine (value_any A1 _ c1 t w1 hr1 hbt (by show t.length ≤ 8; omega)).mono ?_
      rintro e w2 ⟨rfl, rfl⟩
      rw [← HV.out]
      go_wp2
      go_ret
      exact ⟨rfl, hw1, hg1⟩

set_option maxHeartbeats 400000 in
theorem refInt_any (g bd : Nat) (most : Int) (l : List Nat) (f : Bool) (w : World) (h : RR w g bd l f) :
    Calls Try.prog 35 #[.pointer (some ⟨g, 0, none⟩), .int .i64 most] w fun e w' => e = .returned (.int .i64 (rdInt most l f).1) ∧ RR w' g bd (rdInt most l f).2.1 (rdInt most l f).2.2 ∧ w.grownBy w' (some g) := by
  have hbt := rdTake_bytes (k := 4) (f := f) h.bytes
  have hln : (rdTake 4 l f).1.length ≤ 4 := rdTake_len
  have HT := Lib.hid (take_any g bd 4 l f w h (by omega))
  have HU := Lib.hid (rdInt_take most l f)
  obtain ⟨⟨t, l', f'⟩, hT⟩ : ∃ x, x = rdTake 4 l f := ⟨_, rfl⟩
  rw [← hT] at HT HU hbt hln
  simp only at hbt hln
  have hvl : valOf t < 4294967296 := by
    have h1 := valOf_lt t hbt
    have h2 : (256 : Nat) ^ t.length ≤ 256 ^ 4 := Nat.pow_le_pow_right (by omega) hln
    have h3 : (256 : Nat) ^ 4 = 4294967296 := by decide
    omega
  obtain ⟨v, hv⟩ : ∃ v, v = valOf t := ⟨_, rfl⟩
  have HV := Lib.hid hv
  rw [← hv] at HU hvl
  clear hT hv h
  cases f' with
  | true =>
    have HE : Hid (rdInt most l f = (0, l', true)) := by show _ = _; rw [HU.out]; simp
    rw [HE.out]
    go_enter Try.func35, Try.ntmps35
    go_wp2_with fail
    refine HT.out.mono ?_
    rintro e w1 ⟨A1, c1, rfl, hr1, hw1, hg1, _⟩
    have c2 := hw1.cell1
    have fr := hw1.free 1
    go_wp2_with fail
    refine (value_any A1 _ c1 t w1 hr1 hbt (by show t.length ≤ 8; omega)).mono ?_
    rintro e w2 ⟨rfl, rfl⟩
    rw [← HV.out]
    go_wp2
    go_ret
    exact ⟨rfl, hw1.fail, grown_setCell' (p := ⟨g, 1, none⟩) hg1 (.inl rfl) _⟩
  | false =>
    by_cases hm : most < (v : Int)
    · have HE : Hid (rdInt most l f = (0, l', true)) := by show _ = _; rw [HU.out, if_pos (.inr hm)]
      rw [HE.out]
      go_enter Try.func35, Try.ntmps35
      go_wp2_with fail
      refine HT.out.mono ?_
      rintro e w1 ⟨A1, c1, rfl, hr1, hw1, hg1, _⟩
      have c2 := hw1.cell1
      have fr := hw1.free 1
      go_wp2_with fail
      refine (value_any A1 _ c1 t w1 hr1 hbt (by show t.length ≤ 8; omega)).mono ?_
      rintro e w2 ⟨rfl, rfl⟩
      rw [← HV.out]
      go_wp2
      go_ret
      exact ⟨rfl, hw1.fail, grown_setCell' (p := ⟨g, 1, none⟩) hg1 (.inl rfl) _⟩
    · have HE : Hid (rdInt most l f = (v, l', false)) := by show _ = _; rw [HU.out, if_neg (by simp; omega)]
      rw [HE.out]
      go_enter Try.func35, Try.ntmps35
      go_wp2_with fail
      refine HT.out.mono ?_
      rintro e w1 ⟨A1, c1, rfl, hr1, hw1, hg1, _⟩
      have c2 := hw1.cell1
      go_wp2_with fail
      refine (value_any A1 _ c1 t w1 hr1 hbt (by show t.length ≤ 8; omega)).mono ?_
      rintro e w2 ⟨rfl, rfl⟩
      rw [← HV.out]
      go_wp2
      go_ret
      exact ⟨rfl, hw1, hg1⟩

theorem rdBytes_take (most : Int) (l : List Nat) (f : Bool) : rdBytes most l f = rdTake (rdInt most l f).1 (rdInt most l f).2.1 (rdInt most l f).2.2 := rfl

set_option maxHeartbeats 400000 in
theorem refBytes_any (g bd : Nat) (most : Int) (l : List Nat) (f : Bool) (w : World) (h : RR w g bd l f) :
    Calls Try.prog 37 #[.pointer (some ⟨g, 0, none⟩), .int .i64 most] w fun e w' => ∃ A c, e = .returned (.slice A (rdBytes most l f).1.length c) ∧ Rd w' 1 A (rdBytes most l f).1.length (U8 (rdBytes most l f).1) ∧ RR w' g bd (rdBytes most l f).2.1 (rdBytes most l f).2.2 ∧ w.grownBy w' (some g) ∧ (∀ ad, A = some ad → 0 < (rdBytes most l f).1.length → ad.block < bd) := by
  have hv : (rdInt most l f).1 < 4294967296 := rdInt_lt h.bytes
  have HI := Lib.hid (refInt_any g bd most l f w h)
  have HB := Lib.hid (rdBytes_take most l f)
  obtain ⟨⟨v, l', f'⟩, hT⟩ : ∃ x, x = rdInt most l f := ⟨_, rfl⟩
  rw [← hT] at HI HB hv
  simp only at hv
  rw [HB.out]
  clear hT h
  go_enter Try.func37, Try.ntmps37
  go_wp2_with fail
  refine HI.out.mono ?_
  rintro e w1 ⟨rfl, hw1, hg1⟩
  go_wp2_with fail
  refine (take_any g bd v l' f' w1 hw1 (by omega)).mono ?_
  rintro e w2 ⟨A2, c2, rfl, hr2, hw2, hg2, hA2⟩
  go_wp2
  go_ret
  exact ⟨A2, c2, rfl, hr2, hw2, grown_step hg1 hg2 fun k hk => .inl hk, hA2⟩

set_option maxHeartbeats 1000000 in
theorem refList_any (g bd p0 : Nat) (most : Int) (l : List Nat) (f : Bool) (w : World) (h : RR w g bd l f) (hgt : bd ≤ w.heap.size) :
    Calls Try.prog 36 #[.pointer (some ⟨g, 0, none⟩), .int .i64 most, .int .u64 p0] w fun e w' => ∃ v, e = .returned v ∧ w'.ownsRow w.heap.size 23 1 v (rdList most p0 l f).1.length (U64 (rdList most p0 l f).1) ∧ RR w' g bd (rdList most p0 l f).2.1 (rdList most p0 l f).2.2 ∧ w.grownBy w' (some g) := by
  have hv : (rdInt most l f).1 < 4294967296 := rdInt_lt h.bytes
  have HD := Lib.hid (refInt_any g bd most l f w h)
  obtain ⟨⟨v, l', f'⟩, hD⟩ : ∃ x, x = rdInt most l f := ⟨_, rfl⟩
  rw [← hD] at HD hv
  have HU : Hid (rdList most p0 l f = if f' = true ∨ l'.length / 8 < v then ([], l', true) else rdWords p0 v [] l') := by simp only [Hid, rdList, ← hD]
  clear hD
  have hgs : g < w.heap.size := h.lt
  clear h
  simp only at hv
  cases f' with
  | true =>
    have HE : Hid (rdList most p0 l f = ([], l', true)) := by simp only [Hid, HU.out]; simp
    rw [HE.out]
    go_enter Try.func36, Try.ntmps36
    go_wp2_with fail
    refine HD.out.mono ?_
    rintro e w1 ⟨rfl, hw1, hg1⟩
    have c2 := hw1.cell1
    have fr := hw1.free 1
    go_wp2
    go_ret
    exact ⟨_, rfl, World.ownsRow_nil _ _ _ _, hw1.fail, grown_setCell' (p := ⟨g, 1, none⟩) hg1 (.inl rfl) _⟩
  | false =>
    by_cases hs : l'.length / 8 < v
    · have HE : Hid (rdList most p0 l f = ([], l', true)) := by simp only [Hid, HU.out]; rw [if_pos (.inr hs)]
      rw [HE.out]
      go_enter Try.func36, Try.ntmps36
      go_wp2_with fail
      refine HD.out.mono ?_
      rintro e w1 ⟨rfl, hw1, hg1⟩
      have hw2 := hw1
      obtain ⟨A, n, c, hb, hr, hA, hc, hn, hl⟩ := hw2
      have hlen := hr.len1
      rw [len_U8] at hlen
      have h5 : n / 8 < v := by omega
      have fr := hw1.free 1
      have c2 := hw1.cell1
      have c0 := hb.cell 0
      simp at c0
      have H1 := Lib.hid hw1
      clear hlen hw1 hb hr hA hl hs
      go_wp2
      go_ret
      exact ⟨_, rfl, World.ownsRow_nil _ _ _ _, H1.out.fail, grown_setCell' (p := ⟨g, 1, none⟩) hg1 (.inl rfl) _⟩
    · have HE : Hid (rdList most p0 l f = rdWords p0 v [] l') := by simp only [Hid, HU.out]; rw [if_neg (by simp; omega)]
      rw [HE.out]
      go_enter Try.func36, Try.ntmps36
      go_wp2_with fail
      refine HD.out.mono ?_
      rintro e w1 ⟨rfl, hw1, hg1⟩
      have hw2 := hw1
      obtain ⟨A, n, c, hb, hr, hA, hc, hn, hl⟩ := hw2
      have hlen := hr.len1
      rw [len_U8] at hlen
      have h5 : v ≤ n / 8 := by omega
      have h6 : 8 * v ≤ l'.length := by omega
      have c2 := hw1.cell1
      have c0 := hb.cell 0
      simp at c0
      have H1 := Lib.hid hw1
      have hg1s := hg1.size
      clear hlen hw1 hb hr hA hl hs
      go_wp2_with fail
      go_loopw [8, 9, 10] (fun s i x wr => ∃ (j : Nat) (acc lc : List Nat), j ≤ v ∧ i = .int .i64 (j : Int) ∧ acc.length = j ∧ Hid (rdWords p0 v [] l' = rdWords p0 (v - j) acc lc) ∧ 8 * (v - j) ≤ lc.length ∧ RR wr g bd lc false ∧ wr.ownsRow w.heap.size 23 1 s j (U64 acc) ∧ w.grownBy wr (some g))
        (fun _ i _ _ => v - (intOf i).toNat)
      case atStart => exact ⟨0, [], l', Nat.zero_le _, rfl, rfl, rfl, by omega, H1.out, World.ownsRow_nil _ _ _ _, hg1⟩
      case round =>
        obtain ⟨j, acc, lc, hj, rfl, hja, HR, hlc, hw, hown, hgw⟩ := hrel
        have HJ := Lib.hid hja
        clear hja
        by_cases hlt : j < v
        · have hd : rdTake 8 lc false = (lc.take 8, lc.drop 8, false) := by rw [rdTake, if_neg (by simp; omega)]
          have hbt := rdTake_bytes (k := 8) (f := false) hw.bytes
          have HC := Lib.hid (take_any g bd 8 lc false wr hw (by omega))
          rw [hd] at HC hbt
          simp only at hbt
          have hl8 : (lc.take 8).length = 8 := by rw [List.length_take]; omega
          have hvl : valOf (lc.take 8) < 18446744073709551616 := by
            have := valOf_lt (lc.take 8) hbt
            rw [hl8] at this
            exact this
          have HL8 := Lib.hid hl8
          obtain ⟨t8, ht8⟩ : ∃ t, t = lc.take 8 := ⟨_, rfl⟩
          have HT8 := Lib.hid ht8
          rw [← ht8] at HC hbt hvl HL8
          obtain ⟨x, hx⟩ : ∃ x, x = valOf t8 := ⟨_, rfl⟩
          have HX := Lib.hid hx
          rw [← hx] at hvl
          have HR2 : Hid (rdWords p0 v [] l' = if p0 ≤ x then ([], lc.drop 8, true) else rdWords p0 (v - (j + 1)) (acc ++ [x]) (lc.drop 8)) := by
            show _ = _
            rw [HR.out, show v - j = (v - (j + 1)) + 1 from by omega, rdWords, hx, ht8]
          have hgr := hw.lt
          clear hd hw hx HR ht8 hl8
          go_wp2_with fail
          refine HC.out.mono ?_
          rintro e w3 ⟨A3, c3, rfl, hr3, hw3, hg3, _⟩
          go_wp2_with fail
          refine (value_any A3 _ c3 t8 w3 hr3 hbt (by show t8.length ≤ 8; rw [HL8.out]; omega)).mono ?_
          rintro e w4 ⟨rfl, rfl⟩
          rw [← HX.out]
          have hg03 := grown_step hgw hg3 fun k hk => .inl hk
          have hown3 := hown.kept hg3 (by
            cases hv : u8.ownBlock with
            | none => exact .inl rfl
            | some q => exact .inr fun e => by injection e with e; have := (hown.lt q hv).1; omega)
          have fr := hw3.free 1
          have c13 := hw3.cell1
          clear hr3 hown hgw hg3 HC
          by_cases hpx : p0 ≤ x
          · have HE2 : Hid (rdWords p0 v [] l' = ([], lc.drop 8, true)) := by
              show _ = _
              rw [HR2.out, if_pos hpx]
            go_wp2
            go_ret
            rw [HE2.out]
            exact ⟨_, rfl, World.ownsRow_nil _ _ _ _, hw3.fail, grown_setCell' (p := ⟨g, 1, none⟩) hg03 (.inl rfl) _⟩
          · have HR3 : Hid (rdWords p0 v [] l' = rdWords p0 (v - (j + 1)) (acc ++ [x]) (lc.drop 8)) := by
              show _ = _
              rw [HR2.out, if_neg hpx]
            have hlc2 : 8 * (v - (j + 1)) ≤ (lc.drop 8).length := by rw [List.length_drop]; omega
            have hja2 := Lib.hid (show (acc ++ [x]).length = j + 1 by rw [List.length_append, HJ.out]; rfl)
            clear HR2
            have hs3 := hg03.size
            go_wp2_with (at_builtin; refine wpl_append rfl _ _ rfl el_u64 rfl (hown3.alloc _) rfl (rd_one _ (.int .u64 (x : Int)) _) ?_ ?_ ?_ ?_)
            · intro u hu; simp at hu; subst hu; rfl
            · omega
            · simp; omega
            intro v' w5 hown' hgrow hat
            have hg05 := grown_step (grown_alloc' hg03 (.cells #[.int .u64 (x : Int)] 23)) hgrow fun k hk => .inr (hown3.lt k hk).1
            have hw5 := (hw3.below ((Below.refl _ _).alloc (Nat.le_refl _) (.cells #[.int .u64 (x : Int)] 23)) (Nat.le_refl _)).grown hgrow fun k hk => by have := (hown3.lt k hk).1; exact ⟨by omega, by omega⟩
            clear hown3 hgrow hat hw3 hg03
            go_wp2
            go_roundw
            case rel =>
              refine ⟨j + 1, acc ++ [x], lc.drop 8, by omega, by go_num, hja2.out, HR3, hlc2, hw5, ?_, hg05⟩
              rw [U64_append]
              exact hown'
            case measure => simp [intOf]; omega
        · have e : j = v := by omega
          subst e
          have HE2 : Hid (rdWords p0 j [] l' = (acc, lc, false)) := by
            show _ = _
            rw [HR.out, Nat.sub_self, rdWords]
          go_wp2
          go_ret
          rw [HE2.out]
          refine ⟨_, rfl, ?_, hw, hgw⟩
          show World.ownsRow _ _ _ _ _ acc.length _
          rw [HJ.out]
          exact hown
end Go.Proofs.Ytohddeebmofoeaa
