/-
  Walks of package wire's reader: NewReader, Uint, Int, Bytes, Done, Failed.
-/
import Derived.Test.YtohddeebmofoeaaWireF
namespace Go.Proofs.Ytohddeebmofoeaa
open Go.RowKit

theorem WR.len_le {w : World} {g : Nat} {bd : Nat × Nat} {l : List Nat} {f : Bool} (h : WR w g bd l f) : l.length ≤ 10000000 := by
  obtain ⟨A, n, c, p, L, hb, hr, hA, hp, hn, rfl, hL⟩ := h
  have := hr.len1
  rw [len_U8] at this
  rw [List.length_drop]
  omega
theorem WR.bytes {w : World} {g : Nat} {bd : Nat × Nat} {l : List Nat} {f : Bool} (h : WR w g bd l f) : ∀ x ∈ l, x < 256 := by
  obtain ⟨A, n, c, p, L, hb, hr, hA, hp, hn, rfl, hL⟩ := h
  exact fun x hx => hL x (List.mem_of_mem_drop hx)
theorem WR.lt {w : World} {g : Nat} {bd : Nat × Nat} {l : List Nat} {f : Bool} (h : WR w g bd l f) : g < w.heap.size := by
  obtain ⟨A, n, c, p, L, hb, _⟩ := h
  exact hb.lt
theorem WR.drew {w : World} {g : Nat} {bd : Nat × Nat} {l : List Nat} {f : Bool} (h : WR w g bd l f) : WR w.drew g bd l f := h
theorem WR.drewN {w : World} {g : Nat} {bd : Nat × Nat} {l : List Nat} {f : Bool} (h : WR w g bd l f) (k : Nat) : WR (w.drewN k) g bd l f := h
theorem WR.grown {w w' : World} {g : Nat} {bd : Nat × Nat} {l : List Nat} {f : Bool} {row : Option Nat} (h : WR w g bd l f) (hg : w.grownBy w' row) (hr : ∀ k, row = some k → k ≠ g ∧ (bd.2 ≤ k ∨ k < bd.1)) : WR w' g bd l f := by
  obtain ⟨A, n, c, p, L, hb, hr', hA, hp, hn, rfl, hL⟩ := h
  refine ⟨A, n, c, p, L, hb.grown hg fun e => (hr g e.symm).1 rfl, hr'.grown hg fun ad e1 e2 => ?_, hA, hp, hn, rfl, hL⟩
  have h1 := (hr _ e2.symm).2
  have h2 := hA.1 ad e1
  omega
theorem WR.below {w w' : World} {g B : Nat} {bd : Nat × Nat} {l : List Nat} {f : Bool} (h : WR w g bd l f) (hb : Below B w w') (hB : w.heap.size ≤ B) : WR w' g bd l f :=
  h.grown (row := none) ⟨hb.os, hb.tape, hb.output, hb.size, fun k hk _ => hb.block k (by omega)⟩ fun k hk => by cases hk
/-- The failing store. -/
theorem WR.fail {w : World} {g : Nat} {bd : Nat × Nat} {l : List Nat} {f : Bool} (h : WR w g bd l f) : WR (w.setCell ⟨g, 2, none⟩ (.bool true)) g bd l true := by
  obtain ⟨A, n, c, p, L, hb, hr, hA, hp, hn, rfl, hL⟩ := h
  exact ⟨A, n, c, p, L, by simpa using hb.set_ 2 (.bool true), hr.set_ (p := ⟨g, 2, none⟩) (fun ad e => by have := hA.1 ad e; have := hA.2; show ad.block ≠ g; omega) _, hA, hp, hn, rfl, hL⟩
theorem WR.cell2 {w : World} {g : Nat} {bd : Nat × Nat} {l : List Nat} {f : Bool} (h : WR w g bd l f) : w.cell? ⟨g, 2, none⟩ = some (.bool f) := by
  obtain ⟨A, n, c, p, L, hb, _⟩ := h
  simpa using hb.cell 2
theorem WR.free {w : World} {g : Nat} {bd : Nat × Nat} {l : List Nat} {f : Bool} (h : WR w g bd l f) (i : Nat) : w.frozen? ⟨g, i, none⟩ = false := by
  obtain ⟨A, n, c, p, L, hb, _⟩ := h
  exact hb.frozen i

def rdUint (most : Nat) (l : List Nat) (f : Bool) : Nat × List Nat × Bool :=
  if (rdDig 8 l f).2.1 = false ∨ most < (rdDig 8 l f).1 then (0, (rdDig 8 l f).2.2.1, true) else ((rdDig 8 l f).1, (rdDig 8 l f).2.2)
def rdInt (most : Int) (l : List Nat) (f : Bool) : Nat × List Nat × Bool :=
  if (rdDig 4 l f).2.1 = false ∨ most < ((rdDig 4 l f).1 : Int) then (0, (rdDig 4 l f).2.2.1, true) else ((rdDig 4 l f).1, (rdDig 4 l f).2.2)

theorem rdDig_lt {k : Nat} {l : List Nat} {f : Bool} (hl : ∀ x ∈ l, x < 256) : (rdDig k l f).1 < 256 ^ k := by
  unfold rdDig
  split
  · exact Nat.pow_pos (by omega)
  · exact Nat.lt_of_lt_of_le (valOf_lt _ fun x hx => hl x (List.mem_of_mem_take hx)) (Nat.pow_le_pow_right (by omega) (by rw [List.length_take]; omega))

set_option maxHeartbeats 400000 in
theorem rUint_any (g : Nat) (bd : Nat × Nat) (most : Nat) (l : List Nat) (f : Bool) (w : World) (h : WR w g bd l f) :
    Calls Try.prog 25 #[.pointer (some ⟨g, 0, none⟩), .int .u64 most] w fun e w' => e = .returned (.int .u64 (rdUint most l f).1) ∧ WR w' g bd (rdUint most l f).2.1 (rdUint most l f).2.2 ∧ w.grownBy w' (some g) := by
  have hv : (rdDig 8 l f).1 < 18446744073709551616 := rdDig_lt h.bytes
  have HD := Lib.hid (digits_any g bd 8 l f w h (by omega))
  obtain ⟨⟨v, ok, l', f'⟩, hD⟩ : ∃ x, x = rdDig 8 l f := ⟨_, rfl⟩
  rw [← hD] at HD hv
  have HU : Hid (rdUint most l f = if ok = false ∨ most < v then (0, l', true) else (v, l', f')) := by simp only [Hid, rdUint, ← hD]
  clear hD h
  simp only at hv
  cases ok with
  | false =>
    have HE : Hid (rdUint most l f = (0, l', true)) := by simp only [Hid, HU.out]; simp
    rw [HE.out]
    go_enter Try.func25, Try.ntmps25
    go_wp2_with fail
    refine HD.out.mono ?_
    rintro e w1 ⟨rfl, hw1, hg1⟩
    have c2 := hw1.cell2
    have fr := hw1.free 2
    go_wp2
    go_ret
    exact ⟨rfl, hw1.fail, grown_setCell' (p := ⟨g, 2, none⟩) hg1 (.inl rfl) _⟩
  | true =>
    by_cases hm : most < v
    · have HE : Hid (rdUint most l f = (0, l', true)) := by simp only [Hid, HU.out]; rw [if_pos (.inr hm)]
      rw [HE.out]
      go_enter Try.func25, Try.ntmps25
      go_wp2_with fail
      refine HD.out.mono ?_
      rintro e w1 ⟨rfl, hw1, hg1⟩
      have c2 := hw1.cell2
      have fr := hw1.free 2
      go_wp2
      go_ret
      exact ⟨rfl, hw1.fail, grown_setCell' (p := ⟨g, 2, none⟩) hg1 (.inl rfl) _⟩
    · have HE : Hid (rdUint most l f = (v, l', f')) := by simp only [Hid, HU.out]; rw [if_neg (by simp; omega)]
      rw [HE.out]
      go_enter Try.func25, Try.ntmps25
      go_wp2_with fail
      refine HD.out.mono ?_
      rintro e w1 ⟨rfl, hw1, hg1⟩
      go_wp2
      go_ret
      exact ⟨rfl, hw1, hg1⟩

set_option maxHeartbeats 400000 in
theorem rdInt_any (g : Nat) (bd : Nat × Nat) (most : Int) (l : List Nat) (f : Bool) (w : World) (h : WR w g bd l f) :
    Calls Try.prog 26 #[.pointer (some ⟨g, 0, none⟩), .int .i64 most] w fun e w' => e = .returned (.int .i64 (rdInt most l f).1) ∧ WR w' g bd (rdInt most l f).2.1 (rdInt most l f).2.2 ∧ w.grownBy w' (some g) := by
  have hv : (rdDig 4 l f).1 < 4294967296 := rdDig_lt h.bytes
  have HD := Lib.hid (digits_any g bd 4 l f w h (by omega))
  obtain ⟨⟨v, ok, l', f'⟩, hD⟩ : ∃ x, x = rdDig 4 l f := ⟨_, rfl⟩
  rw [← hD] at HD hv
  have HU : Hid (rdInt most l f = if ok = false ∨ most < (v : Int) then (0, l', true) else (v, l', f')) := by simp only [Hid, rdInt, ← hD]
  clear hD h
  simp only at hv
  cases ok with
  | false =>
    have HE : Hid (rdInt most l f = (0, l', true)) := by simp only [Hid, HU.out]; simp
    rw [HE.out]
    go_enter Try.func26, Try.ntmps26
    go_wp2_with fail
    refine HD.out.mono ?_
    rintro e w1 ⟨rfl, hw1, hg1⟩
    have c2 := hw1.cell2
    have fr := hw1.free 2
    go_wp2
    go_ret
    exact ⟨rfl, hw1.fail, grown_setCell' (p := ⟨g, 2, none⟩) hg1 (.inl rfl) _⟩
  | true =>
    by_cases hm : most < (v : Int)
    · have HE : Hid (rdInt most l f = (0, l', true)) := by simp only [Hid, HU.out]; rw [if_pos (.inr hm)]
      rw [HE.out]
      go_enter Try.func26, Try.ntmps26
      go_wp2_with fail
      refine HD.out.mono ?_
      rintro e w1 ⟨rfl, hw1, hg1⟩
      have c2 := hw1.cell2
      have fr := hw1.free 2
      go_wp2
      go_ret
      exact ⟨rfl, hw1.fail, grown_setCell' (p := ⟨g, 2, none⟩) hg1 (.inl rfl) _⟩
    · have HE : Hid (rdInt most l f = (v, l', f')) := by simp only [Hid, HU.out]; rw [if_neg (by simp; omega)]
      rw [HE.out]
      go_enter Try.func26, Try.ntmps26
      go_wp2_with fail
      refine HD.out.mono ?_
      rintro e w1 ⟨rfl, hw1, hg1⟩
      go_wp2
      go_ret
      exact ⟨rfl, hw1, hg1⟩

set_option maxHeartbeats 400000 in
theorem failed_any (g : Nat) (bd : Nat × Nat) (l : List Nat) (f : Bool) (w : World) (h : WR w g bd l f) :
    Calls Try.prog 23 #[.pointer (some ⟨g, 0, none⟩)] w fun e w' => e = .returned (.bool f) ∧ w = w' := by
  have c2 := h.cell2
  clear h
  go_enter Try.func23, Try.ntmps23
  go_wp2
  go_ret
  exact ⟨rfl, rfl⟩

set_option maxHeartbeats 400000 in
theorem done_any (g : Nat) (bd : Nat × Nat) (l : List Nat) (f : Bool) (w : World) (h : WR w g bd l f) :
    Calls Try.prog 22 #[.pointer (some ⟨g, 0, none⟩)] w fun e w' => e = .returned (.bool (!f && l.isEmpty)) ∧ ∃ k, w' = w.drewN k := by
  obtain ⟨A, n, c, p, L, hb, hr, hA, ⟨hp, _⟩, hn, rfl, hL⟩ := h
  have h0 := hb.cell 0
  have h1 := hb.cell 1
  have h2 := hb.cell 2
  simp at h0 h1 h2
  have hlen := hr.len1
  rw [len_U8] at hlen
  have HB : Hid ((L.drop p).isEmpty = decide (p = n)) := by
    show _ = _
    rw [Bool.eq_iff_iff, List.isEmpty_iff, List.drop_eq_nil_iff]
    simp
    omega
  clear hlen hb hr hA hL
  cases f with
  | true =>
    go_enter Try.func22, Try.ntmps22
    go_wp2_with fail
    go_quiet (fail)
    go_wp2
    go_ret
    exact ⟨by simp, _, rfl⟩
  | false =>
    rw [HB.out]
    by_cases e : p = n
    · subst e
      go_enter Try.func22, Try.ntmps22
      go_wp2_with fail
      go_quiet (fail)
      go_wp2
      go_ret
      exact ⟨by simp, _, rfl⟩
    · have hq : ((p : Int) == (n : Int)) = false := by simp; omega
      have HQ := Lib.hid e
      clear e
      go_enter Try.func22, Try.ntmps22
      go_wp2_with fail
      go_quiet (fail)
      go_wp2
      go_ret
      exact ⟨by simp [HQ.out], _, rfl⟩

set_option maxHeartbeats 400000 in
theorem newReader_any (A : Option Addr) (n c : Nat) (l : List Nat) (w : World) (hr : Rd w 1 A n (U8 l)) (hn : n ≤ 10000000) (hl : ∀ x ∈ l, x < 256) :
    Calls Try.prog 20 #[.slice A n c] w fun e w' => ∃ g bd, e = .returned (.pointer (some ⟨g, 0, none⟩)) ∧ WR w' g bd l false ∧ w.heap.size ≤ g ∧ w.heap.size ≤ bd.1 ∧ g + 1 = w'.heap.size ∧ Below w.heap.size w w' := by
  go_enter Try.func20, Try.ntmps20
  go_wp2_with (go_at_call 31; refine (room_any A n c 0 (U8 l) w hr (one_U8 _) (by omega)).mono ?_; rintro e w1 ⟨v, rfl, hv, hb⟩; obtain ⟨A1, c1, rfl, hc1, _, hr1, hA1⟩ := own_form hv)
  go_ret
  refine ⟨w1.heap.size, (w.heap.size, w1.heap.size), rfl, ⟨A1, n, c1, 0, l, Blk.new _ _ _, hr1.alloc _, ⟨fun ad e => hA1 ad e, Nat.le_refl _⟩, ⟨Nat.zero_le _, hc1⟩, hn, by simp, hl⟩, hb.size, Nat.le_refl _, by simp, hb.alloc hb.size _⟩

theorem take_drop_U8 (l : List Nat) (p k : Nat) : ((U8 l).drop p).take k = U8 ((l.drop p).take k) := by simp [U8]

theorem rd_part {w : World} {A : Option Addr} {n c p v : Nat} {L l' : List Nat} (h : Rd w 1 A n (U8 L)) (hp : p ≤ n) (hc : n ≤ c) (hv : p + v ≤ n) (e : L.drop p = l') :
    Rd w 1 (if c = p then A else A.map (·.add (p * 1))) (p + v - p) (U8 (l'.take v)) := by
  have h1 := (h.cut (k := p) (cap := c) hp hc).take (k := v) (by omega)
  rw [show p + v - p = v from by omega, ← e, ← take_drop_U8]
  rw [Nat.mul_one v, Nat.mul_one p] at h1
  rw [Nat.mul_one p]
  exact h1

/-- Reading at most a number of bytes. -/
def rdBytes (most : Int) (l : List Nat) (f : Bool) : List Nat × List Nat × Bool :=
  if (rdInt most l f).2.2 = true ∨ (rdInt most l f).2.1.length < (rdInt most l f).1 then ([], (rdInt most l f).2.1, true)
  else ((rdInt most l f).2.1.take (rdInt most l f).1, (rdInt most l f).2.1.drop (rdInt most l f).1, false)

theorem rdInt_lt {most : Int} {l : List Nat} {f : Bool} (hl : ∀ x ∈ l, x < 256) : (rdInt most l f).1 < 4294967296 := by
  have := rdDig_lt (k := 4) (f := f) hl
  unfold rdInt
  split
  · exact (by decide : 0 < 4294967296)
  · exact this

set_option maxHeartbeats 1000000 in
set_option linter.unusedSimpArgs false in
theorem rdBytes_any (g : Nat) (bd : Nat × Nat) (most : Int) (l : List Nat) (f : Bool) (w : World) (h : WR w g bd l f) :
    Calls Try.prog 21 #[.pointer (some ⟨g, 0, none⟩), .int .i64 most] w fun e w' => ∃ v, e = .returned v ∧ w'.ownsRow w.heap.size 5 1 v (rdBytes most l f).1.length (U8 (rdBytes most l f).1) ∧ WR w' g bd (rdBytes most l f).2.1 (rdBytes most l f).2.2 ∧ w.grownBy w' (some g) := by
  have hv : (rdInt most l f).1 < 4294967296 := rdInt_lt h.bytes
  have HD := Lib.hid (rdInt_any g bd most l f w h)
  obtain ⟨⟨v, l', f'⟩, hD⟩ : ∃ x, x = rdInt most l f := ⟨_, rfl⟩
  rw [← hD] at HD hv
  have HU : Hid (rdBytes most l f = if f' = true ∨ l'.length < v then ([], l', true) else (l'.take v, l'.drop v, false)) := by simp only [Hid, rdBytes, ← hD]
  clear hD h
  simp only at hv
  cases f' with
  | true =>
    have HE : Hid (rdBytes most l f = ([], l', true)) := by simp only [Hid, HU.out]; simp
    rw [HE.out]
    go_enter Try.func21, Try.ntmps21
    go_wp2_with fail
    refine HD.out.mono ?_
    rintro e w1 ⟨rfl, hw1, hg1⟩
    have c2 := hw1.cell2
    have fr := hw1.free 2
    go_wp2
    go_ret
    exact ⟨_, rfl, World.ownsRow_nil _ _ _ _, hw1.fail, grown_setCell' (p := ⟨g, 2, none⟩) hg1 (.inl rfl) _⟩
  | false =>
    by_cases hs : l'.length < v
    · have HE : Hid (rdBytes most l f = ([], l', true)) := by simp only [Hid, HU.out]; rw [if_pos (.inr hs)]
      rw [HE.out]
      go_enter Try.func21, Try.ntmps21
      go_wp2_with fail
      refine HD.out.mono ?_
      rintro e w1 ⟨rfl, hw1, hg1⟩
      have c2 := hw1.cell2
      have hw2 := hw1
      obtain ⟨A, n, c, p, L, hb, hr, hA, ⟨hp, hnc⟩, hn, hl', hL⟩ := hw2
      have hlen := hr.len1
      rw [len_U8] at hlen
      have hln : l'.length = n - p := by rw [← hl', List.length_drop, hlen]
      have h5 : n - p < v := by omega
      have fr := hw1.free 2
      have H1 := Lib.hid hw1
      clear hlen hln hl' hw1
      go_wp2_with (go_at_call 33; refine (left_any g n c p A false w1 hb hp hn).mono ?_; rintro e w2 ⟨rfl, kk, rfl⟩)
      go_ret
      exact ⟨_, rfl, World.ownsRow_nil _ _ _ _, (WR.drewN H1.out kk).fail, grown_setCell' (p := ⟨g, 2, none⟩) (grown_drewN' hg1 _) (.inl rfl) _⟩
    · have HE : Hid (rdBytes most l f = (l'.take v, l'.drop v, false)) := by simp only [Hid, HU.out]; rw [if_neg (by simp; omega)]
      rw [HE.out]
      go_enter Try.func21, Try.ntmps21
      go_wp2_with fail
      refine HD.out.mono ?_
      rintro e w1 ⟨rfl, hw1, hg1⟩
      have c2 := hw1.cell2
      have hw2 := hw1
      obtain ⟨A, n, c, p, L, hb, hr, hA, ⟨hp, hnc⟩, hn, hl', hL⟩ := hw2
      have hlen := hr.len1
      rw [len_U8] at hlen
      have hln : l'.length = n - p := by rw [← hl', List.length_drop, hlen]
      have h5 : p + v ≤ n := by omega
      have f1 := hw1.free 1
      have c0 := hb.cell 0
      have c1 := hb.cell 1
      simp at c0 c1
      have H1 := Lib.hid hw1
      have HL := Lib.hid hl'
      have HN := Lib.hid hln
      clear hlen hln hl' hw1
      go_wp2_with (go_at_call 33; refine (left_any g n c p A false w1 hb hp hn).mono ?_; rintro e w2 ⟨rfl, kk, rfl⟩)
      have hbW := Blk.drew ((hb.drewN kk).set_ 1 (.int .i64 ((p : Int) + (v : Int))))
      simp only [List.setIfInBounds_toArray, List.set_cons_zero, List.set_cons_succ] at hbW
      have hAg : ∀ ad, A = some ad → ad.block ≠ g := fun ad e => by have := hA.1 ad e; omega
      have hrW := Rd.drew ((hr.drewN kk).set_ (p := ⟨g, 1, none⟩) hAg (.int .i64 ((p : Int) + (v : Int))))
      have hrt := rd_part hrW hp hnc h5 HL.out
      have hgW := grown_drew' (grown_setCell' (p := ⟨g, 1, none⟩) (grown_drewN' hg1 kk) (.inl rfl) (.int .i64 ((p : Int) + (v : Int))))
      have hwW : WR _ g bd (l'.drop v) false := ⟨A, n, c, p + v, L, hbW, hrW, hA, ⟨by omega, hnc⟩, hn, by rw [← List.drop_drop, HL.out], hL⟩
      clear c0 c1 c2 f1
      refine wpR_begin Later (by kernel_rfl) ?_
      refine wpR_take 0 (v := ?_) later_moves (by decide) (by kernel_rfl) (by kernel_rfl) (by kernel_rfl) (fun _ _ _ h => h) (wantedT (by rfl) ?_) ?_ ; rotate_left ; · ( intro w' hR ; simp only [List.getElem_cons_succ, List.getElem_cons_zero] ; go_simp ; try with_reducible rfl )
      simp only [Act.put, List.getElem_cons_succ, List.getElem_cons_zero, List.setIfInBounds_toArray, List.set_cons_zero, List.set_cons_succ]
      refine wpR_take 1 (v := ?_) later_moves (by decide) (by kernel_rfl) (by kernel_rfl) (by kernel_rfl) (fun _ _ _ h => h) (wantedT (by rfl) ?_) ?_ ; rotate_left ; · ( intro w' hR ; simp only [List.getElem_cons_succ, List.getElem_cons_zero] ; go_simp ; try with_reducible rfl )
      simp only [Act.put, List.getElem_cons_succ, List.getElem_cons_zero, List.setIfInBounds_toArray, List.set_cons_zero, List.set_cons_succ]
      refine wpR_take 2 (v := ?_) later_moves (by decide) (by kernel_rfl) (by kernel_rfl) (by kernel_rfl) (fun _ _ _ h => h) (wantedT (by rfl) ?_) ?_ ; rotate_left ; · ( intro w' hR ; simp only [List.getElem_cons_succ, List.getElem_cons_zero] ; go_simp ; try with_reducible rfl )
      simp only [Act.put, List.getElem_cons_succ, List.getElem_cons_zero, List.setIfInBounds_toArray, List.set_cons_zero, List.set_cons_succ]
      refine wpR_take 3 (v := .slice A n c) later_moves (by decide) (by kernel_rfl) (by kernel_rfl) (by kernel_rfl) (fun _ _ _ h => h) (wantedT (by rfl) ?_) ?_ ; · ( intro w' hR ; simp only [List.getElem_cons_succ, List.getElem_cons_zero] ; have q := (hbW.below hR hbW.lt).cell 0 ; simp at q ; go_simp )
      simp only [Act.put, List.getElem_cons_succ, List.getElem_cons_zero, List.setIfInBounds_toArray, List.set_cons_zero, List.set_cons_succ]
      refine wpR_take 4 (v := ?_) later_moves (by decide) (by kernel_rfl) (by kernel_rfl) (by kernel_rfl) (fun _ _ _ h => h) (wantedT (by rfl) ?_) ?_ ; rotate_left ; · ( intro w' hR ; simp only [List.getElem_cons_succ, List.getElem_cons_zero] ; go_simp ; try with_reducible rfl )
      simp only [Act.put, List.getElem_cons_succ, List.getElem_cons_zero, List.setIfInBounds_toArray, List.set_cons_zero, List.set_cons_succ]
      refine wpR_take 5 (v := ?_) later_moves (by decide) (by kernel_rfl) (by kernel_rfl) (by kernel_rfl) (fun _ _ _ h => h) (wantedT (by rfl) ?_) ?_ ; rotate_left ; · ( intro w' hR ; simp only [List.getElem_cons_succ, List.getElem_cons_zero] ; go_simp ; try with_reducible rfl )
      simp only [Act.put, List.getElem_cons_succ, List.getElem_cons_zero, List.setIfInBounds_toArray, List.set_cons_zero, List.set_cons_succ]
      refine wpR_take 6 (v := ?_) later_moves (by decide) (by kernel_rfl) (by kernel_rfl) (by kernel_rfl) (fun _ _ _ h => h) (wantedT (by rfl) ?_) ?_ ; rotate_left ; · ( intro w' hR ; simp only [List.getElem_cons_succ, List.getElem_cons_zero] ; go_simp ; try with_reducible rfl )
      simp only [Act.put, List.getElem_cons_succ, List.getElem_cons_zero, List.setIfInBounds_toArray, List.set_cons_zero, List.set_cons_succ]
      refine wpR_take 7 (v := ?_) later_moves (by decide) (by kernel_rfl) (by kernel_rfl) (by kernel_rfl) (fun _ _ _ h => h) (wantedT (by rfl) ?_) ?_ ; rotate_left ; · ( intro w' hR ; simp only [List.getElem_cons_succ, List.getElem_cons_zero] ; go_simp ; try with_reducible rfl )
      simp only [Act.put, List.getElem_cons_succ, List.getElem_cons_zero, List.setIfInBounds_toArray, List.set_cons_zero, List.set_cons_succ]
      refine wpR_take 8 (v := .int .i64 ((p : Int) + (v : Int))) later_moves (by decide) (by kernel_rfl) (by kernel_rfl) (by kernel_rfl) (fun _ _ _ h => h) (wantedT (by rfl) ?_) ?_ ; · ( intro w' hR ; simp only [List.getElem_cons_succ, List.getElem_cons_zero] ; have q := (hbW.below hR hbW.lt).cell 1 ; simp at q ; go_simp )
      simp only [Act.put, List.getElem_cons_succ, List.getElem_cons_zero, List.setIfInBounds_toArray, List.set_cons_zero, List.set_cons_succ]
      refine wpR_take 9 later_moves (by decide) (by kernel_rfl) (by kernel_rfl) (by kernel_rfl) (fun _ _ _ h => h) (wantedT (by rfl) (fun w' hR => cut_op el_u8 p (p + v) rfl rfl rfl rfl rfl (by omega) (by omega) (by omega))) ?_
      simp only [Act.put, List.getElem_cons_succ, List.getElem_cons_zero, List.setIfInBounds_toArray, List.set_cons_zero, List.set_cons_succ]
      refine wpR_call 10 later_moves (by decide) (by kernel_rfl) (by rfl) ((room_any (if c = p then A else A.map (·.add (p * 1))) (p + v - p) (c - p) 0 (U8 (l'.take v)) _ hrt (one_U8 _) (by omega)).mono ?_) (fun _ => by simp only [List.getElem_cons_succ, List.getElem_cons_zero] ; go_simp)
      rintro e w3 ⟨v3, rfl, hv3, hb3⟩
      refine ⟨_, rfl, hb3, ?_⟩
      simp only [Act.put, List.getElem_cons_succ, List.getElem_cons_zero, List.setIfInBounds_toArray, List.set_cons_zero, List.set_cons_succ]
      refine wpR_take 11 (v := ?_) later_moves (by decide) (by kernel_rfl) (by kernel_rfl) (by kernel_rfl) (fun _ _ _ h => h) (wantedT (by rfl) ?_) ?_ ; rotate_left ; · ( intro w' hR ; simp only [List.getElem_cons_succ, List.getElem_cons_zero] ; go_simp ; try with_reducible rfl )
      simp only [Act.put, List.getElem_cons_succ, List.getElem_cons_zero, List.setIfInBounds_toArray, List.set_cons_zero, List.set_cons_succ]
      refine wpR_done (by kernel_rfl) ?_
      have hwF := hwW.below hb3 (Nat.le_refl _)
      have hgF := grown_below hgW hb3 hgW.size
      have hvF := own_base hv3 hgW.size
      clear hbW hrW hrt hgW hwW hb3 hv3
      have e2 : min v l'.length = p + v - p := by omega
      have H2 := Lib.hid e2
      clear e2
      go_wp2
      all_goals
        go_ret
        refine ⟨_, rfl, ?_, hwF, hgF⟩
        rw [H2.out]
        exact hvF
end Go.Proofs.Ytohddeebmofoeaa
