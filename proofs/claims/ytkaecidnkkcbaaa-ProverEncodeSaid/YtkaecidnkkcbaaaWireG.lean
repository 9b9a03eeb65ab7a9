/-
  Walks of package wire's reader: NewReader, Uint, Int, Bytes, Done, Failed.
-/
import Derived.Test.YtkaecidnkkcbaaaWireF
namespace Go.Proofs.Ytkaecidnkkcbaaa
open Go.RowKit

theorem WR.len_le {w : World} {g : Nat} {bd : Nat × Nat} {l : List Nat} {f : Bool} (h : WR w g bd l f) : l.length ≤ 10000000 := by
  obtain ⟨A, n, c, p, L, hb, hr, hA, hp, hn, rfl, hL⟩ := h
  have := hr.len1
  rw [len_U8] at this
  rw [List.length_drop]
  omega
theorem WR.bytes {w : World} {g : Nat} {bd : Nat × Nat} {l : List Nat} {f : Bool} (h : WR w g bd l f) : ∀ x ∈ l, x < 256 := by
  obtain ⟨A, n, c, p, L, hb, hr, hA, hp, hn, rfl, hL⟩ := h
  exact fun x hx => hL x (List.mem_of_mem_drop hx)
theorem WR.lt {w : World} {g : Nat} {bd : Nat × Nat} {l : List Nat} {f : Bool} (h : WR w g bd l f) : g < w.heap.size := by
  obtain ⟨A, n, c, p, L, hb, _⟩ := h
  exact hb.lt
theorem WR.drew {w : World} {g : Nat} {bd : Nat × Nat} {l : List Nat} {f : Bool} (h : WR w g bd l f) : WR w.drew g bd l f := h
theorem WR.drewN {w : World} {g : Nat} {bd : Nat × Nat} {l : List Nat} {f : Bool} (h : WR w g bd l f) (k : Nat) : WR (w.drewN k) g bd l f := h
theorem WR.grown {w w' : World} {g : Nat} {bd : Nat × Nat} {l : List Nat} {f : Bool} {row : Option Nat} (h : WR w g bd l f) (hg : w.grownBy w' row) (hr : ∀ k, row = some k → k ≠ g ∧ (bd.2 ≤ k ∨ k < bd.1)) : WR w' g bd l f := by
  obtain ⟨A, n, c, p, L, hb, hr', hA, hp, hn, rfl, hL⟩ := h
  refine ⟨A, n, c, p, L, hb.grown hg fun e => (hr g e.symm).1 rfl, hr'.grown hg fun ad e1 e2 => ?_, hA, hp, hn, rfl, hL⟩
  have h1 := (hr _ e2.symm).2
  have h2 := hA.1 ad e1
  omega
theorem WR.below {w w' : World} {g B : Nat} {bd : Nat × Nat} {l : List Nat} {f : Bool} (h : WR w g bd l f) (hb : Below B w w') (hB : w.heap.size ≤ B) : WR w' g bd l f :=
  h.grown (row := none) ⟨hb.os, hb.tape, hb.output, hb.size, fun k hk _ => hb.block k (by omega)⟩ fun k hk => by cases hk
/-- The failing store. -/
theorem WR.fail {w : World} {g : Nat} {bd : Nat × Nat} {l : List Nat} {f : Bool} (h : WR w g bd l f) : WR (w.setCell ⟨g, 2, none⟩ (.bool true)) g bd l true := by
  obtain ⟨A, n, c, p, L, hb, hr, hA, hp, hn, rfl, hL⟩ := h
  exact ⟨A, n, c, p, L, by simpa using hb.set_ 2 (.bool true), hr.set_ (p := ⟨g, 2, none⟩) (fun ad e => by have := hA.1 ad e; have := hA.2; show ad.block ≠ g; omega) _, hA, hp, hn, rfl, hL⟩
theorem WR.cell2 {w : World} {g : Nat} {bd : Nat × Nat} {l : List Nat} {f : Bool} (h : WR w g bd l f) : w.cell? ⟨g, 2, none⟩ = some (.bool f) := by
  obtain ⟨A, n, c, p, L, hb, _⟩ := h
  simpa using hb.cell 2
theorem WR.free {w : World} {g : Nat} {bd : Nat × Nat} {l : List Nat} {f : Bool} (h : WR w g bd l f) (i : Nat) : w.frozen? ⟨g, i, none⟩ = false := by
  obtain ⟨A, n, c, p, L, hb, _⟩ := h
  exact hb.frozen i

def rdUint (most : Nat) (l : List Nat) (f : Bool) : Nat × List Nat × Bool :=
  if (rdDig 8 l f).2.1 = false ∨ most < (rdDig 8 l f).1 then (0, (rdDig 8 l f).2.2.1, true) else ((rdDig 8 l f).1, (rdDig 8 l f).2.2)
def rdInt (most : Int) (l : List Nat) (f : Bool) : Nat × List Nat × Bool :=
  if (rdDig 4 l f).2.1 = false ∨ most < ((rdDig 4 l f).1 : Int) then (0, (rdDig 4 l f).2.2.1, true) else ((rdDig 4 l f).1, (rdDig 4 l f).2.2)

theorem rdDig_lt {k : Nat} {l : List Nat} {f : Bool} (hl : ∀ x ∈ l, x < 256) : (rdDig k l f).1 < 256 ^ k := by
  unfold rdDig
  split
  · exact Nat.pow_pos (by omega)
  · exact Nat.lt_of_lt_of_le (valOf_lt _ fun x hx => hl x (List.mem_of_mem_take hx)) (Nat.pow_le_pow_right (by omega) (by rw [List.length_take]; omega))

set_option maxHeartbeats 400000 in
theorem rUint_any (g : Nat) (bd : Nat × Nat) (most : Nat) (l : List Nat) (f : Bool) (w : World) (h : WR w g bd l f) :
    Calls Try.prog 29 #[.pointer (some ⟨g, 0, none⟩), .int .u64 most] w fun e w' => e = .returned (.int .u64 (rdUint most l f).1) ∧ WR w' g bd (rdUint most l f).2.1 (rdUint most l f).2.2 ∧ w.grownBy w' (some g) := by
  have hv : (rdDig 8 l f).1 < 18446744073709551616 := rdDig_lt h.bytes
  have HD := Lib.hid (digits_any g bd 8 l f w h (by omega))
  obtain ⟨⟨v, ok, l', f'⟩, hD⟩ : ∃ x, x = rdDig 8 l f := ⟨_, rfl⟩
  rw [← hD] at HD hv
  have HU : Hid (rdUint most l f = if ok = false ∨ most < v then (0, l', true) else (v, l', f')) := by simp only [Hid, rdUint, ← hD]
  clear hD h
  simp only at hv
  cases ok with
  | false =>
    have HE : Hid (rdUint most l f = (0, l', true)) := by simp only [Hid, HU.out]; simp
    rw [HE.out]
    go_enter Try.func29, Try.ntmps29
    go_wp2_with fail
    refine HD.out.mono ?_
    rintro e w1 ⟨rfl, hw1, hg1⟩
    have c2 := hw1.cell2
    have fr := hw1.free 2
    go_wp2
    go_ret
    exact ⟨rfl, hw1.fail, grown_setCell' (p := ⟨g, 2, none⟩) hg1 (.inl rfl) _⟩
  | true =>
    by_cases hm : most < v
    · have HE : Hid (rdUint most l f = (0, l', true)) := by simp only [Hid, HU.out]; rw [if_pos (.inr hm)]
      rw [HE.out]
      go_enter Try.func29, Try.ntmps29
      go_wp2_with fail
      refine HD.out.mono ?_
      rintro e w1 ⟨rfl, hw1, hg1⟩
      have c2 := hw1.cell2
      have fr := hw1.free 2
      go_wp2
      go_ret
      exact ⟨rfl, hw1.fail, grown_setCell' (p := ⟨g, 2, none⟩) hg1 (.inl rfl) _⟩
    · have HE : Hid (rdUint most l f = (v, l', f')) := by simp only [Hid, HU.out]; rw [if_neg (by simp; omega)]
      rw [HE.out]
      go_enter Try.func29, Try.ntmps29
      go_wp2_with fail
      refine HD.out.mono ?_
      rintro e w1 ⟨rfl, hw1, hg1⟩
      go_wp2
      go_ret
      exact ⟨rfl, hw1, hg1⟩

set_option maxHeartbeats 400000 in
theorem done_any (g : Nat) (bd : Nat × Nat) (l : List Nat) (f : Bool) (w : World) (h : WR w g bd l f) :
    Calls Try.prog 30 #[.pointer (some ⟨g, 0, none⟩)] w fun e w' => e = .returned (.bool (!f && l.isEmpty)) ∧ ∃ k, w' = w.drewN k := by
  obtain ⟨A, n, c, p, L, hb, hr, hA, ⟨hp, _⟩, hn, rfl, hL⟩ := h
  have h0 := hb.cell 0
  have h1 := hb.cell 1
  have h2 := hb.cell 2
  simp at h0 h1 h2
  have hlen := hr.len1
  rw [len_U8] at hlen
  have HB : Hid ((L.drop p).isEmpty = decide (p = n)) := by
    show _ = _
    rw [Bool.eq_iff_iff, List.isEmpty_iff, List.drop_eq_nil_iff]
    simp
    omega
  clear hlen hb hr hA hL
  cases f with
  | true =>
    go_enter Try.func30, Try.ntmps30
    go_wp2_with fail
    go_quiet (fail)
    go_wp2
    go_ret
    exact ⟨by simp, _, rfl⟩
  | false =>
    rw [HB.out]
    by_cases e : p = n
    · subst e
      go_enter Try.func30, Try.ntmps30
      go_wp2_with fail
      go_quiet (fail)
      go_wp2
      go_ret
      exact ⟨by simp, _, rfl⟩
    · have hq : ((p : Int) == (n : Int)) = false := by simp; omega
      have HQ := Lib.hid e
      clear e
      go_enter Try.func30, Try.ntmps30
      go_wp2_with fail
      go_quiet (fail)
      go_wp2
      go_ret
      exact ⟨by simp [HQ.out], _, rfl⟩

set_option maxHeartbeats 400000 in
theorem newReader_any (A : Option Addr) (n c : Nat) (l : List Nat) (w : World) (hr : Rd w 1 A n (U8 l)) (hn : n ≤ 10000000) (hl : ∀ x ∈ l, x < 256) :
    Calls Try.prog 28 #[.slice A n c] w fun e w' => ∃ g bd, e = .returned (.pointer (some ⟨g, 0, none⟩)) ∧ WR w' g bd l false ∧ w.heap.size ≤ g ∧ w.heap.size ≤ bd.1 ∧ g + 1 = w'.heap.size ∧ Below w.heap.size w w' := by
  go_enter Try.func28, Try.ntmps28
  go_wp2_with (go_at_call 45; refine (room_any A n c 0 (U8 l) w hr (one_U8 _) (by omega)).mono ?_; rintro e w1 ⟨v, rfl, hv, hb⟩; obtain ⟨A1, c1, rfl, hc1, _, hr1, hA1⟩ := own_form hv)
  go_ret
  refine ⟨w1.heap.size, (w.heap.size, w1.heap.size), rfl, ⟨A1, n, c1, 0, l, Blk.new _ _ _, hr1.alloc _, ⟨fun ad e => hA1 ad e, Nat.le_refl _⟩, ⟨Nat.zero_le _, hc1⟩, hn, by simp, hl⟩, hb.size, Nat.le_refl _, by simp, hb.alloc hb.size _⟩

theorem take_drop_U8 (l : List Nat) (p k : Nat) : ((U8 l).drop p).take k = U8 ((l.drop p).take k) := by simp [U8]

theorem rd_part {w : World} {A : Option Addr} {n c p v : Nat} {L l' : List Nat} (h : Rd w 1 A n (U8 L)) (hp : p ≤ n) (hc : n ≤ c) (hv : p + v ≤ n) (e : L.drop p = l') :
    Rd w 1 (if c = p then A else A.map (·.add (p * 1))) (p + v - p) (U8 (l'.take v)) := by
  have h1 := (h.cut (k := p) (cap := c) hp hc).take (k := v) (by omega)
  rw [show p + v - p = v from by omega, ← e, ← take_drop_U8]
  rw [Nat.mul_one v, Nat.mul_one p] at h1
  rw [Nat.mul_one p]
  exact h1

/-- Reading at most a number of bytes. -/
def rdBytes (most : Int) (l : List Nat) (f : Bool) : List Nat × List Nat × Bool :=
  if (rdInt most l f).2.2 = true ∨ (rdInt most l f).2.1.length < (rdInt most l f).1 then ([], (rdInt most l f).2.1, true)
  else ((rdInt most l f).2.1.take (rdInt most l f).1, (rdInt most l f).2.1.drop (rdInt most l f).1, false)

theorem rdInt_lt {most : Int} {l : List Nat} {f : Bool} (hl : ∀ x ∈ l, x < 256) : (rdInt most l f).1 < 4294967296 := by
  have := rdDig_lt (k := 4) (f := f) hl
  unfold rdInt
  split
  · exact (by decide : 0 < 4294967296)
  · exact this

end Go.Proofs.Ytkaecidnkkcbaaa
