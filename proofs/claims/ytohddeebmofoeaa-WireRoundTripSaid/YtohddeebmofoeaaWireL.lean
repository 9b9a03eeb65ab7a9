/-
  Walks of the reference of layer 11 that reads: Value, take, Uint, Int, Bytes.
-/
import Derived.Test.YtohddeebmofoeaaWireK
namespace Go.Proofs.Ytohddeebmofoeaa
open Go.RowKit

theorem valOf_step (l : List Nat) (j : Nat) (h : j < l.length) : valOf (l.drop (j + 1)) * 256 + l[j] = valOf (l.drop j) := by
  rw [List.drop_eq_getElem_cons h, valOf]
  omega
theorem valOf_drop_lt {l : List Nat} (h : ∀ x ∈ l, x < 256) (hl : l.length ≤ 8) (j : Nat) : valOf (l.drop j) < 18446744073709551616 := by
  have h1 := valOf_lt (l.drop j) fun x hx => h x (List.mem_of_mem_drop hx)
  have h2 : (256 : Nat) ^ (l.drop j).length ≤ 256 ^ 8 := Nat.pow_le_pow_right (by omega) (by rw [List.length_drop]; omega)
  have h5 : (256 : Nat) ^ 8 = 18446744073709551616 := by decide
  omega

set_option maxHeartbeats 400000 in
theorem value_any (A : Option Addr) (n c : Nat) (l : List Nat) (w : World) (hr : Rd w 1 A n (U8 l)) (hl : ∀ x ∈ l, x < 256) (hn : n ≤ 8) :
    Calls Try.prog 39 #[.slice A n c] w fun e w' => e = .returned (.int .u64 (valOf l)) ∧ w = w' := by
  have hlen := hr.len1
  rw [len_U8] at hlen
  have HL := Lib.hid hlen
  clear hlen
  go_enter Try.func39, Try.ntmps39
  go_wp2_with fail
  go_loop [3, 4] (fun y i => ∃ j z : Nat, j ≤ n ∧ i = .int .i64 ((j : Int) - 1) ∧ y = .int .u64 (z : Int) ∧ Hid (z = valOf (l.drop j)) ∧ z < 18446744073709551616)
    (fun _ i => (intOf i + 1).toNat)
  case atStart => exact ⟨n, 0, Nat.le_refl _, rfl, rfl, by show _ = _; rw [List.drop_of_length_le (by rw [HL.out]; exact Nat.le_refl _)]; rfl, by omega⟩
  case round =>
    obtain ⟨j, z, hj, rfl, rfl, HZ, hz⟩ := hrel
    by_cases h0 : j = 0
    · subst h0
      have hd : decide ((0 : Int) ≤ ((0 : Nat) : Int) - 1) = false := by simp
      go_wp2
      go_ret
      exact ⟨by rw [← List.drop_zero (l := l), ← HZ.out]; rfl, rfl⟩
    · obtain ⟨k, rfl⟩ : ∃ k, j = k + 1 := ⟨j - 1, by omega⟩
      clear h0
      obtain ⟨ad, u, rfl, hu, hc⟩ := hr.at_ (show k < n by omega)
      have hkl : k < l.length := by rw [HL.out]; omega
      obtain ⟨y, hy⟩ : ∃ y, y = l[k] := ⟨_, rfl⟩
      have hyl : y < 256 := by rw [hy]; exact hl _ (List.getElem_mem _)
      rw [at_U8 hkl, ← hy] at hu
      injection hu with hu
      subst hu
      have HV : Hid (z * 256 + y = valOf (l.drop k)) := by
        show _ = _
        rw [HZ.out, hy]
        exact valOf_step l k hkl
      have hz2 : z * 256 + y < 18446744073709551616 := by rw [HV.out]; exact valOf_drop_lt hl (by rw [HL.out]; exact hn) k
      clear hy hr
      have ek : (((k + 1 : Nat) : Int) - 1) = (k : Int) := by omega
      rw [ek]
      go_wp2
      go_round
      case rel => exact ⟨k, z * 256 + y, by omega, rfl, by go_num, HV, hz2⟩
      case measure => simp [intOf]

/-- The reference's reader in block g, whose bytes lie below block bd. -/
def RR (w : World) (g bd : Nat) (l : List Nat) (f : Bool) : Prop :=
  ∃ (A : Option Addr) (n c : Nat), Blk w g 43 #[.slice A n c, .bool f] ∧ Rd w 1 A n (U8 l) ∧ ((∀ ad, A = some ad → 0 < n → ad.block < bd) ∧ bd ≤ g) ∧ n ≤ c ∧ n ≤ 10000000 ∧ ∀ x ∈ l, x < 256
theorem Rd.set0 {w : World} {size n : Nat} {A : Option Addr} {xs : List Value} (h : Rd w size A n xs) {p : Addr} (hp : ∀ ad, A = some ad → 0 < n → ad.block ≠ p.block) (u : Value) : Rd (w.setCell p u) size A n xs :=
  ⟨h.1, fun hn => by
    obtain ⟨ad, e, hc⟩ := h.2 hn
    refine ⟨ad, e, fun j x hj => ?_⟩
    rw [World.cell?_setCell_other w p _ u (fun e2 => hp ad e hn (by rw [e2, blk_add]))]
    exact hc j x hj⟩
theorem Rd.grown0 {w w' : World} {size n : Nat} {A : Option Addr} {xs : List Value} (h : Rd w size A n xs) {row : Option Nat} (hg : w.grownBy w' row) (hr : ∀ ad, A = some ad → 0 < n → some ad.block ≠ row) : Rd w' size A n xs :=
  ⟨h.1, fun hn => by
    obtain ⟨ad, e, hc⟩ := h.2 hn
    refine ⟨ad, e, fun j u hu => ?_⟩
    exact hg.cell (hc j u hu) (by rw [blk_add]; exact hr ad e hn)⟩
theorem RR.lt {w : World} {g bd : Nat} {l : List Nat} {f : Bool} (h : RR w g bd l f) : g < w.heap.size := by
  obtain ⟨A, n, c, hb, _⟩ := h
  exact hb.lt
theorem RR.bytes {w : World} {g bd : Nat} {l : List Nat} {f : Bool} (h : RR w g bd l f) : ∀ x ∈ l, x < 256 := by
  obtain ⟨A, n, c, _, _, _, _, _, h⟩ := h
  exact h
theorem RR.fail {w : World} {g bd : Nat} {l : List Nat} {f : Bool} (h : RR w g bd l f) : RR (w.setCell ⟨g, 1, none⟩ (.bool true)) g bd l true := by
  obtain ⟨A, n, c, hb, hr, hA, hc, hn, hl⟩ := h
  exact ⟨A, n, c, by simpa using hb.set_ 1 (.bool true), hr.set0 (p := ⟨g, 1, none⟩) (fun ad e h0 => by have := hA.1 ad e h0; have := hA.2; show ad.block ≠ g; omega) _, hA, hc, hn, hl⟩
theorem RR.grown {w w' : World} {g bd : Nat} {l : List Nat} {f : Bool} {row : Option Nat} (h : RR w g bd l f) (hg : w.grownBy w' row) (hr : ∀ k, row = some k → k ≠ g ∧ bd ≤ k) : RR w' g bd l f := by
  obtain ⟨A, n, c, hb, hr', hA, hc, hn, hl⟩ := h
  refine ⟨A, n, c, hb.grown hg fun e => (hr g e.symm).1 rfl, hr'.grown0 hg fun ad e1 h0 e2 => ?_, hA, hc, hn, hl⟩
  have h1 := (hr _ e2.symm).2
  have h2 := hA.1 ad e1 h0
  omega
theorem RR.below {w w' : World} {g bd B : Nat} {l : List Nat} {f : Bool} (h : RR w g bd l f) (hb : Below B w w') (hB : w.heap.size ≤ B) : RR w' g bd l f :=
  h.grown (row := none) ⟨hb.os, hb.tape, hb.output, hb.size, fun k hk _ => hb.block k (by omega)⟩ fun k hk => by cases hk
theorem RR.drewN {w : World} {g bd : Nat} {l : List Nat} {f : Bool} (h : RR w g bd l f) (k : Nat) : RR (w.drewN k) g bd l f := h
theorem RR.cell1 {w : World} {g bd : Nat} {l : List Nat} {f : Bool} (h : RR w g bd l f) : w.cell? ⟨g, 1, none⟩ = some (.bool f) := by
  obtain ⟨A, n, c, hb, _⟩ := h
  simpa using hb.cell 1
theorem RR.free {w : World} {g bd : Nat} {l : List Nat} {f : Bool} (h : RR w g bd l f) (i : Nat) : w.frozen? ⟨g, i, none⟩ = false := by
  obtain ⟨A, n, c, hb, _⟩ := h
  exact hb.frozen i

/-- Taking k bytes. -/
def rdTake (k : Nat) (l : List Nat) (f : Bool) : List Nat × List Nat × Bool :=
  if f = true ∨ l.length < k then ([], l, true) else (l.take k, l.drop k, false)

set_option maxHeartbeats 400000 in
theorem take_any (g bd k : Nat) (l : List Nat) (f : Bool) (w : World) (h : RR w g bd l f) (hk : k ≤ 10000000000) :
    Calls Try.prog 40 #[.pointer (some ⟨g, 0, none⟩), .int .i64 k] w fun e w' => ∃ A c, e = .returned (.slice A (rdTake k l f).1.length c) ∧ Rd w' 1 A (rdTake k l f).1.length (U8 (rdTake k l f).1) ∧ RR w' g bd (rdTake k l f).2.1 (rdTake k l f).2.2 ∧ w.grownBy w' (some g) ∧ (∀ ad, A = some ad → 0 < (rdTake k l f).1.length → ad.block < bd) := by
  have h1 := h.cell1
  have fr1 := h.free 1
  have fr0 := h.free 0
  have h2 := h
  obtain ⟨A, n, c, hb, hr, hA, hc, hn, hl⟩ := h2
  have hlen := hr.len1
  rw [len_U8] at hlen
  have c0 := hb.cell 0
  simp at c0
  have HLn := Lib.hid hlen
  have H0 := Lib.hid h
  clear hlen h
  by_cases hf : f = true
  · subst hf
    have HE : Hid (rdTake k l true = ([], l, true)) := by simp [Hid, rdTake]
    rw [HE.out]
    clear hb hr hA c0
    go_enter Try.func40, Try.ntmps40
    go_wp2
    go_ret
    exact ⟨none, 0, rfl, Rd.nil _ _ _, H0.out.fail, grown_setCell' (p := ⟨g, 1, none⟩) (grown_refl' _ _) (.inl rfl) _, fun ad e => by cases e⟩
  · have hf' : f = false := by simpa using hf
    subst hf'
    clear hf
    by_cases hs : n < k
    · have HE : Hid (rdTake k l false = ([], l, true)) := by
        show _ = _
        rw [rdTake, if_pos (.inr (by rw [HLn.out]; exact hs))]
      rw [HE.out]
      clear hb hr hA
      go_enter Try.func40, Try.ntmps40
      go_wp2
      go_ret
      exact ⟨none, 0, rfl, Rd.nil _ _ _, H0.out.fail, grown_setCell' (p := ⟨g, 1, none⟩) (grown_refl' _ _) (.inl rfl) _, fun ad e => by cases e⟩
    · have HE : Hid (rdTake k l false = (l.take k, l.drop k, false)) := by
        show _ = _
        rw [rdTake, if_neg (by rw [HLn.out]; simp; omega)]
      rw [HE.out]
      have hcut := fun wx => run_cut_hi (P := Try.prog) (w := wx) el_u8 A n c k (by omega)
      have hcut2 := fun wx => run_cut_lo (P := Try.prog) (w := wx) el_u8 A n c k (by omega)
      obtain ⟨A', hA'⟩ : ∃ A', A' = (if c = k then A else A.map (·.add (k * 1))) := ⟨_, rfl⟩
      rw [← hA'] at hcut2
      have H1 := Lib.hid hb
      have H2 := Lib.hid hr
      have H3 := Lib.hid hA
      have H4 := Lib.hid hA'
      clear hb hr hA hA' H0
      go_enter Try.func40, Try.ntmps40
      go_wp2
      go_ret
      have e1 : (l.take k).length = k := by rw [List.length_take, HLn.out]; omega
      have hAne : ∀ ad, A = some ad → 0 < n → ad.block ≠ g := fun ad e h0 => by have := H3.out.1 ad e h0; have := H3.out.2; omega
      have hset := H2.out.set0 (p := ⟨g, 0, none⟩) hAne (.slice A' (n - k) (c - k))
      have hcutr := (H2.out.cut (k := k) (cap := c) (by omega) hc)
      rw [← H4.out, Nat.mul_one, show (U8 l).drop k = U8 (l.drop k) from by simp [U8]] at hcutr
      have hA'b : ∀ ad, A' = some ad → 0 < n - k → ad.block < bd := fun ad e h0 => by
        rw [H4.out] at e
        split at e
        · exact H3.out.1 ad e (by omega)
        · obtain ⟨a0, rfl⟩ : ∃ a0, A = some a0 := by
            cases A with
            | none => simp at e
            | some a0 => exact ⟨a0, rfl⟩
          simp at e
          rw [← e, blk_add]
          exact H3.out.1 a0 rfl (by omega)
      have hb2 := H1.out.set_ 0 (.slice A' (n - k) (c - k))
      refine ⟨A, c, ?_, ?_, ⟨A', n - k, c - k, by simpa using hb2, ?_, ⟨hA'b, H3.out.2⟩, by omega, by omega, fun x hx => hl x (List.mem_of_mem_drop hx)⟩, grown_setCell' (p := ⟨g, 0, none⟩) (grown_refl' _ _) (.inl rfl) _, fun ad e h0 => H3.out.1 ad e (by show 0 < n; rw [← HLn.out]; exact Nat.lt_of_lt_of_le h0 (by simp only [List.length_take]; omega))⟩
      · show Ending.returned (.slice A k c) = Ending.returned (.slice A (l.take k).length c)
        rw [e1]
      · show Rd _ 1 A (l.take k).length (U8 (l.take k))
        rw [e1]
        have := hset.take (k := k) (by omega)
        rw [Nat.mul_one, show (U8 l).take k = U8 (l.take k) from by simp [U8]] at this
        exact this
      · refine hcutr.set0 (p := ⟨g, 0, none⟩) (fun ad e h0 => ?_) _
        have := hA'b ad e h0
        have := H3.out.2
        show ad.block ≠ g
        omega

theorem rdTake_dig {k : Nat} {l : List Nat} {f : Bool} (hk : 0 < k) : rdDig k l f = (valOf (rdTake k l f).1, decide (0 < (rdTake k l f).1.length), (rdTake k l f).2) := by
  unfold rdDig rdTake
  split
  · simp [valOf]
  · rename_i h
    simp at h
    simp [List.length_take]
    omega
theorem rdTake_ok {k : Nat} {l : List Nat} {f : Bool} : (rdDig k l f).2.1 = !(rdTake k l f).2.2 := by
  unfold rdDig rdTake
  split <;> simp
theorem rdTake_len {k : Nat} {l : List Nat} {f : Bool} : (rdTake k l f).1.length ≤ k := by
  unfold rdTake
  split
  · simp
  · simp [List.length_take]; omega
theorem rdTake_bytes {k : Nat} {l : List Nat} {f : Bool} (h : ∀ x ∈ l, x < 256) : ∀ x ∈ (rdTake k l f).1, x < 256 := by
  unfold rdTake
  split
  · simp
  · exact fun x hx => h x (List.mem_of_mem_take hx)

/-- What Uint of the reference does, spelled by what take does: it is rdUint. -/
theorem rdUint_take (most : Nat) (l : List Nat) (f : Bool) : rdUint most l f = if (rdTake 8 l f).2.2 = true ∨ most < valOf (rdTake 8 l f).1 then (0, (rdTake 8 l f).2.1, true) else (valOf (rdTake 8 l f).1, (rdTake 8 l f).2) := by
  have h1 := rdTake_dig (l := l) (f := f) (k := 8) (by omega)
  have h2 := rdTake_ok (l := l) (f := f) (k := 8)
  unfold rdUint
  rw [h2]
  rw [h1]
  simp
theorem rdInt_take (most : Int) (l : List Nat) (f : Bool) : rdInt most l f = if (rdTake 4 l f).2.2 = true ∨ most < (valOf (rdTake 4 l f).1 : Int) then (0, (rdTake 4 l f).2.1, true) else (valOf (rdTake 4 l f).1, (rdTake 4 l f).2) := by
  have h1 := rdTake_dig (l := l) (f := f) (k := 4) (by omega)
  have h2 := rdTake_ok (l := l) (f := f) (k := 4)
  unfold rdInt
  rw [h2]
  rw [h1]
  simp
end Go.Proofs.Ytohddeebmofoeaa
