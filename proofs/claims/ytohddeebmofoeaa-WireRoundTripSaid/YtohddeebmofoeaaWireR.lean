/-
  WireRoundTrip: the walk of the law.
-/
import Derived.Test.YtohddeebmofoeaaWireQ
import Derived.Test.YtohddeebmofoeaaWireN
namespace Go.Proofs.Ytohddeebmofoeaa
open Go.RowKit

/-- A value that is written, as the law's Part has it. -/
structure PartR where
  kind : Nat
  num : Nat
  LA : Option Addr
  ln : Nat
  lc : Nat
  ll : List Nat
  BA : Option Addr
  bn : Nat
  bc : Nat
  bb : List Nat
def PartR.cells (x : PartR) : List Value := [.int .u8 (x.kind : Int), .int .u64 (x.num : Int), .slice x.LA x.ln x.lc, .slice x.BA x.bn x.bc]
def PartR.good (w : World) (x : PartR) : Prop := x.kind < 256 ∧ x.num < 18446744073709551616 ∧ Rd w 1 x.LA x.ln (U64 x.ll) ∧ (∀ y ∈ x.ll, y < 18446744073709551616) ∧ Rd w 1 x.BA x.bn (U8 x.bb) ∧ (∀ y ∈ x.bb, y < 256) ∧ x.ln ≤ 9223372036854775807 ∧ x.bn ≤ 9223372036854775807
def RdParts (w : World) (A : Option Addr) (l : List PartR) : Prop := (∀ x ∈ l, x.good w) ∧ ∀ (i : Nat) (hi : i < l.length), ∃ a, A = some a ∧ ∀ j, j < 4 → w.cell? (a.add (i * 4 + j)) = l[i].cells[j]?
theorem part_below {w w' : World} {x : PartR} (h : x.good w) (hb : Below w.heap.size w w') : x.good w' := ⟨h.1, h.2.1, h.2.2.1.below hb, h.2.2.2.1, h.2.2.2.2.1.below hb, h.2.2.2.2.2⟩
theorem RdParts.below {w w' : World} {A : Option Addr} {l : List PartR} (h : RdParts w A l) (hb : Below w.heap.size w w') : RdParts w' A l :=
  ⟨fun x hx => part_below (h.1 x hx) hb, fun i hi => by
    obtain ⟨a, e, hc⟩ := h.2 i hi
    refine ⟨a, e, fun j hj => ?_⟩
    have hcj := hc j hj
    have hj4 : j < l[i].cells.length := hj
    obtain ⟨u, hu⟩ : ∃ u, l[i].cells[j]? = some u := ⟨_, List.getElem?_eq_getElem hj4⟩
    rw [hu] at hcj ⊢
    exact (hb.cell (World.block_lt_of_cell? _ _ hcj)).trans hcj⟩
theorem RdParts.at_ {w : World} {A : Option Addr} {l : List PartR} (h : RdParts w A l) {i : Nat} (hi : i < l.length) :
    ∃ a x b q, A = some a ∧ x = l[i] ∧ x.good w ∧ a.add (i * 4) = ⟨b, q, none⟩ ∧ w.cell? ⟨b, q, none⟩ = some (.int .u8 (x.kind : Int)) ∧ w.cell? ⟨b, q + 1, none⟩ = some (.int .u64 (x.num : Int)) ∧
      w.cell? ⟨b, q + 2, none⟩ = some (.slice x.LA x.ln x.lc) ∧ w.cell? ⟨b, q + 3, none⟩ = some (.slice x.BA x.bn x.bc) := by
  obtain ⟨a, e, hc⟩ := h.2 i hi
  have h0 := hc 0 (by omega)
  rw [Nat.add_zero] at h0
  obtain ⟨b, q, hq⟩ : ∃ b q, a.add (i * 4) = ⟨b, q, none⟩ := by
    have hs := World.cell?_spot h0
    generalize a.add (i * 4) = x at hs
    obtain ⟨b, q, s⟩ := x
    simp at hs
    subst hs
    exact ⟨b, q, rfl⟩
  have h1 := hc 1 (by omega)
  have h2 := hc 2 (by omega)
  have h3 := hc 3 (by omega)
  rw [← add_add', hq] at h1 h2 h3
  rw [hq] at h0
  exact ⟨a, _, b, q, e, rfl, h.1 _ (List.getElem_mem _), hq, h0, by simpa [Addr.add, PartR.cells] using h1, by simpa [Addr.add, PartR.cells] using h2, by simpa [Addr.add, PartR.cells] using h3⟩

theorem cells_part : Try.prog.cellsOf 53 = 4 := by kernel_rfl
theorem arg_parts {w : World} {A : Option Addr} {n c : Nat} (h : Fits Try.prog w 51 (Value.slice A n c).cells.toList) : ∃ l, l.length = n ∧ n ≤ 9223372036854775807 ∧ RdParts w A l := by
  obtain ⟨A', n', c', e, h1, h2, l, hl, hg, hp⟩ := fits_rows PartR.cells (PartR.good w) 4 Try.underlying51 cells_part (fun cs' hl hf => by
    obtain ⟨_, hx⟩ := fits_struct Try.underlying53 hf
    match cs', hl with
    | [x, y, z, t], _ =>
      have e1 : ∀ k t', Try.prog.cellsOf t' = 1 → (([x, y, z, t].drop k).take (Try.prog.cellsOf t')) = ([x, y, z, t].drop k).take 1 := fun k t' h => by rw [h]
      obtain ⟨a, ha, hal⟩ := fits_u8 Try.underlying5 (hx 0 _ rfl)
      obtain ⟨b, hb, hbl⟩ := fits_u64 Try.underlying23 (hx 1 _ rfl)
      obtain ⟨LA, ln, lc, ll, hc, hc1, hc2, hc3, hc4⟩ := fits_words Try.underlying31 Try.underlying23 cells_u64 (hx 2 _ rfl)
      obtain ⟨BA, bn, bc, bb, hd, hd1, hd2, hd3, hd4⟩ := fits_bytes Try.underlying22 Try.underlying5 cells_u8 (hx 3 _ rfl)
      rw [e1 _ _ (by kernel_rfl)] at ha hb hc hd
      simp at ha hb hc hd
      simp only [maxLen] at hc2 hd2
      exact ⟨⟨a, b, LA, ln, lc, ll, BA, bn, bc, bb⟩, ⟨hal, hbl, hc3, hc4, hd3, hd4, by show ln ≤ _; omega, by show bn ≤ _; omega⟩, by rw [ha, hb, hc, hd]; rfl⟩) h
  simp [Value.cells] at e
  obtain ⟨rfl, rfl, rfl⟩ := e
  exact ⟨l, hl, by simp [maxLen] at h2; omega, hg, hp⟩

/-- The encoding of a value; of several. -/
def encP (x : PartR) : List Nat :=
  match x.kind % 4 with
  | 0 => digs x.num 8
  | 1 => digs (x.num % 4294967296) 4
  | 2 => digs x.ll.length 4 ++ x.ll.flatMap fun y => digs y 8
  | _ => digs x.bb.length 4 ++ x.bb
theorem encP_0 (x : PartR) (h : x.kind % 4 = 0) : encP x = digs x.num 8 := by simp [encP, h]
theorem encP_1 (x : PartR) (h : x.kind % 4 = 1) : encP x = digs (x.num % 4294967296) 4 := by simp [encP, h]
theorem encP_2 (x : PartR) (h : x.kind % 4 = 2) : encP x = digs x.ll.length 4 ++ x.ll.flatMap fun y => digs y 8 := by simp [encP, h]
theorem encP_3 (x : PartR) (h : x.kind % 4 = 3) : encP x = digs x.bb.length 4 ++ x.bb := by simp [encP, h]
theorem enc_step {ps : List PartR} {j : Nat} {x : PartR} {bl : List Nat} (h : j < ps.length) (hx : x = ps[j]) (hI : bl = (ps.take j).flatMap encP) : Hid (bl ++ encP x = (ps.take (j + 1)).flatMap encP) := by
  show _ = _
  rw [List.take_succ_eq_append_getElem h, List.flatMap_append, hI, hx]
  simp
theorem small_step {ps : List PartR} {j : Nat} {x : PartR} {p : PartR → Prop} (h : j < ps.length) (hx : x = ps[j]) (hI : ∀ (i : Nat) (hi : i < ps.length), i < j → p ps[i]) (hp : p x) : Hid (∀ (i : Nat) (hi : i < ps.length), i < j + 1 → p ps[i]) := by
  intro i hi hij
  by_cases e : i = j
  · subst e; rw [← hx]; exact hp
  · exact hI i hi (by omega)
theorem below_only {g : Nat} {w w' : World} (h : Below w.heap.size w w') (_hg : g < w.heap.size) : Only g w w' := ⟨h.os, h.tape, h.output, h.size, fun k hk _ => h.block k hk⟩

theorem valOf_digs8 {n : Nat} (h : n < 18446744073709551616) (r : List Nat) : valOf ((digs n 8 ++ r).take 8) = n := by
  have hl : (digs n 8).length = 8 := len_digs 8 n
  rw [List.take_append_of_le_length (by omega), List.take_of_length_le (by omega), valOf_digs, show (256 : Nat) ^ 8 = 18446744073709551616 from by decide]
  omega
theorem drop_digs8 (n : Nat) (r : List Nat) : (digs n 8 ++ r).drop 8 = r := by
  have hl : (digs n 8).length = 8 := len_digs 8 n
  rw [List.drop_append_of_le_length (by omega), List.drop_of_length_le (by omega)]
  rfl
theorem rdUint_enc (x : PartR) (r : List Nat) (hk : x.kind % 4 = 0) {w : World} (hx : x.good w) : rdUint 18446744073709551615 (encP x ++ r) false = (x.num, r, false) := by
  have hl : (digs x.num 8).length = 8 := len_digs 8 _
  have h2 := hx.2.1
  have e : rdDig 8 (digs x.num 8 ++ r) false = (x.num, true, r, false) := by
    rw [rdDig, if_neg (by rw [List.length_append, hl]; simp), valOf_digs8 h2, drop_digs8]
  rw [encP_0 x hk, rdUint, e, if_neg (by simp; omega)]
theorem rdInt_enc (x : PartR) (r : List Nat) (hk : x.kind % 4 = 1) : rdInt 4294967296 (encP x ++ r) false = (x.num % 4294967296, r, false) := by
  rw [encP_1 x hk]
  exact rdInt_digs _ _ _ (by omega) (by omega)
theorem rdBytes_enc (x : PartR) (r : List Nat) (hk : x.kind % 4 = 3) (h : x.bb.length ≤ 200) (hb : x.bb.length = x.bn) : rdBytes (x.bn : Int) (encP x ++ r) false = (x.bb, r, false) := by
  rw [encP_3 x hk, List.append_assoc, ← hb]
  exact rdBytes_digs _ _ _ (by omega) (by omega)
theorem rdWords_enc (p : Nat) (r : List Nat) : ∀ (l acc : List Nat), (∀ y ∈ l, y < p ∧ y < 18446744073709551616) → rdWords p l.length acc ((l.flatMap fun y => digs y 8) ++ r) = (acc ++ l, r, false)
  | [], acc, _ => by simp [rdWords]
  | y :: l, acc, h => by
    obtain ⟨h1, h2⟩ := h y (by simp)
    rw [List.flatMap_cons, List.append_assoc, List.length_cons, rdWords, valOf_digs8 h2, if_neg (by omega), drop_digs8, rdWords_enc p r l _ fun z hz => h z (by simp [hz])]
    simp
theorem rdList_enc (x : PartR) (r : List Nat) (p : Nat) (hk : x.kind % 4 = 2) (h : x.ll.length ≤ 50) (hp : ∀ y ∈ x.ll, y < p) (hb : x.ll.length = x.ln) {w : World} (hx : x.good w) : rdList (x.ln : Int) p (encP x ++ r) false = (x.ll, r, false) := by
  rw [encP_2 x hk, List.append_assoc, ← hb, rdList, rdInt_digs _ _ _ (by omega) (by omega), if_neg (by rw [List.length_append, flat8_len]; simp; omega)]
  have := rdWords_enc p r x.ll [] fun y hy => ⟨hp y hy, hx.2.2.2.1 y hy⟩
  simpa using this
theorem cast_top : (((18446744073709551615 : Nat) : Int)) = (18446744073709551615 : Int) := rfl
theorem encP_bytes (x : PartR) {w : World} (hx : x.good w) : ∀ y ∈ encP x, y < 256 := by
  have h4 : x.kind % 4 = 0 ∨ x.kind % 4 = 1 ∨ x.kind % 4 = 2 ∨ x.kind % 4 = 3 := by omega
  rcases h4 with h | h | h | h
  · rw [encP_0 x h]; exact digs_bytes _ _
  · rw [encP_1 x h]; exact digs_bytes _ _
  · rw [encP_2 x h]
    intro y hy
    rcases List.mem_append.1 hy with h1 | h1
    · exact digs_bytes _ _ y h1
    · obtain ⟨z, _, hz⟩ := List.mem_flatMap.1 h1
      exact digs_bytes _ _ y hz
  · rw [encP_3 x h]
    intro y hy
    rcases List.mem_append.1 hy with h1 | h1
    · exact digs_bytes _ _ y h1
    · exact hx.2.2.2.2.2.1 y h1

set_option maxHeartbeats 400000 in
theorem length_any (x : PartR) (w : World) :
    Calls Try.prog 28 #[.agg #[.int .u8 (x.kind : Int), .int .u64 (x.num : Int), .slice x.LA x.ln x.lc, .slice x.BA x.bn x.bc]] w fun e w' => e = .returned (.int .i64 ((x.num % 4294967296 : Nat) : Int)) ∧ Below w.heap.size w w' := by
  go_enter Try.func28, Try.ntmps28
  go_wp2
  go_ret
  exact ⟨by simp, (Below.refl _ _).alloc (Nat.le_refl _) _⟩

set_option maxHeartbeats 4000000 in
set_option maxRecDepth 100000 in
set_option linter.unusedSimpArgs false in
theorem wireRoundTrip_in (C : Option Addr) (m d : Nat) (ps : List PartR) (w : World) (ho : RdParts w C ps) (hom : ps.length = m) (hm : m ≤ 20) :
    Calls Try.prog 9 #[.slice C m d] w fun e w' => e = .returned (.bool true) ∧ Below w.heap.size w w' := by
  have hd2 : decide ((20 : Int) < (m : Int)) = false := by simp; omega
  have HM := Lib.hid hom
  clear hom
  go_enter Try.func9, Try.ntmps9
  go_wp2_with fail
  refine (awake_any _).mono ?_
  rintro e w1 ⟨rfl, hb1⟩
  go_wp2_with fail
  go_loopw [3, 23] (fun s i wr => ∃ (j : Nat) (X : Option Addr) (nn cc : Nat) (bl : List Nat), j ≤ m ∧ i = .int .i64 (j : Int) ∧ s = .slice X nn cc ∧ Rd wr 1 X nn (U8 bl) ∧ Below w.heap.size w wr ∧
      Hid (bl = (ps.take j).flatMap encP) ∧ nn ≤ 412 * j ∧ Hid (∀ (i : Nat) (hi : i < ps.length), i < j → ps[i].ln ≤ 50 ∧ ps[i].bn ≤ 200))
    (fun _ i _ => m - (intOf i).toNat)
  case atStart => exact ⟨0, none, 0, 0, [], Nat.zero_le _, rfl, rfl, Rd.nil _ _ _, hb1, by show _ = _; simp, by omega, fun i hi h => absurd h (by omega)⟩
  case round =>
    obtain ⟨j, X, nn, cc, bl, hj, rfl, rfl, hro, hb, HI, hnn, HS⟩ := hrel
    clear hb1
    by_cases hlt : j < m
    · have hjl : j < ps.length := by rw [HM.out]; exact hlt
      obtain ⟨ad, x, b, q, rfl, hxe, hxg, hq, k1, k2, k3, k4⟩ := (ho.below hb).at_ hjl
      have hxw : x.good w := by rw [hxe]; exact ho.1 _ (List.getElem_mem _)
      have HX := Lib.hid hxe
      clear hxe
      have hxL := hxw.2.2.1
      have hxB := hxw.2.2.2.2.1
      have hbn0 := hxL.len1
      have hbn1 := hxB.len1
      rw [len_U64] at hbn0
      rw [len_U8] at hbn1
      have HLL := Lib.hid hbn0
      have HBB := Lib.hid hbn1
      have hxm := hxg.2.2.2.2.2.2
      clear hbn0 hbn1 hxw
      have hb0 := hb.alloc hb.size (.cells #[.int .u8 (x.kind : Int), .int .u64 (x.num : Int), .slice x.LA x.ln x.lc, .slice x.BA x.bn x.bc] 53)
      have hro0 := hro.alloc (.cells #[.int .u8 (x.kind : Int), .int .u64 (x.num : Int), .slice x.LA x.ln x.lc, .slice x.BA x.bn x.bc] 53)
      clear hb hro
      by_cases hs1 : 50 < x.ln
      · have hd3 : decide ((50 : Int) < (x.ln : Int)) = true := by simp; omega
        go_wp2
        go_ret
        exact ⟨rfl, hb0⟩
      · have hd3 : decide ((50 : Int) < (x.ln : Int)) = false := by simp; omega
        by_cases hs2 : 200 < x.bn
        · have hd4 : decide ((200 : Int) < (x.bn : Int)) = true := by simp; omega
          go_wp2
          go_ret
          exact ⟨rfl, hb0⟩
        · have hd4 : decide ((200 : Int) < (x.bn : Int)) = false := by simp; omega
          have h4 : x.kind % 4 = 0 ∨ x.kind % 4 = 1 ∨ x.kind % 4 = 2 ∨ x.kind % 4 = 3 := by omega
          rcases h4 with hk | hk | hk | hk
          · have q0 : (((x.kind : Int) % 4) == 0) = true := by rw [beq_iff_eq]; omega
            have HE := Lib.hid (encP_0 x hk)
            have HK := Lib.hid hk
            clear hk
            go_wp2_with fail
            have hro5 := hro0
            have hb05 := hb0
            refine (wUint_any X nn cc x.num (U8 bl) _ hro5 (one_U8 _) hxg.2.1 (by omega)).mono ?_
            rintro e w6 ⟨v6, rfl, hv6, hb6⟩
            obtain ⟨A6, c6, rfl, _, _, hr6, _⟩ := own_form hv6
            have hb06 := below_chain hb05 hb6
            have hr7 : Rd w6 1 A6 (nn + 8) (U8 (bl ++ encP x)) := by
              rw [HE.out]
              simp only [U8_append]
              exact hr6
            have H7 := Lib.hid hr7
            clear hv6 hb05 hb6 hro5 hro0 hr6 hr7 hb0
            go_wp2
            go_roundw
            case rel => exact ⟨j + 1, A6, nn + 8, c6, bl ++ encP x, by omega, by go_num, rfl, H7.out, hb06, enc_step hjl HX.out HI.out, by omega, small_step (p := fun x => x.ln ≤ 50 ∧ x.bn ≤ 200) hjl HX.out HS.out (by show _ ∧ _; omega)⟩
            case measure => simp [intOf]; omega
          · have q0 : (((x.kind : Int) % 4) == 0) = false := by rw [beq_eq_false_iff_ne]; omega
            have q1 : (((x.kind : Int) % 4) == 1) = true := by rw [beq_iff_eq]; omega
            have HE := Lib.hid (encP_1 x hk)
            have HK := Lib.hid hk
            clear hk
            go_wp2_with fail
            refine (length_any x _).mono ?_
            rintro e w5 ⟨rfl, hb5⟩
            have hro5 := hro0.below hb5
            have hb05 := below_chain hb0 hb5
            go_wp2_with fail
            refine (wInt_any X nn cc ((x.num % 4294967296 : Nat) : Int) (U8 bl) _ hro5 (one_U8 _) (by omega) (by omega) (by omega)).mono ?_
            rintro e w6 ⟨v6, rfl, hv6, hb6⟩
            obtain ⟨A6, c6, rfl, _, _, hr6, _⟩ := own_form hv6
            have hb06 := below_chain hb05 hb6
            have hr7 : Rd w6 1 A6 (nn + 4) (U8 (bl ++ encP x)) := by
              rw [lenOf_nat (n := x.num % 4294967296) (by omega)] at hr6
              rw [HE.out]
              simp only [U8_append]
              exact hr6
            have H7 := Lib.hid hr7
            clear hv6 hb05 hb6 hro5 hro0 hr6 hr7 hb0
            go_wp2
            go_roundw
            case rel => exact ⟨j + 1, A6, nn + 4, c6, bl ++ encP x, by omega, by go_num, rfl, H7.out, hb06, enc_step hjl HX.out HI.out, by omega, small_step (p := fun x => x.ln ≤ 50 ∧ x.bn ≤ 200) hjl HX.out HS.out (by show _ ∧ _; omega)⟩
            case measure => simp [intOf]; omega
          · have q0 : (((x.kind : Int) % 4) == 0) = false := by rw [beq_eq_false_iff_ne]; omega
            have q1 : (((x.kind : Int) % 4) == 1) = false := by rw [beq_eq_false_iff_ne]; omega
            have q2 : (((x.kind : Int) % 4) == 2) = true := by rw [beq_iff_eq]; omega
            have HE := Lib.hid (encP_2 x hk)
            have HK := Lib.hid hk
            clear hk
            go_wp2_with fail
            have hro5 := hro0
            have hb05 := hb0
            refine (wList_any X x.LA nn cc x.ln x.lc (U8 bl) x.ll _ hro5 (one_U8 _) (hxL.below hb05) hxg.2.2.2.1 (by omega)).mono ?_
            rintro e w6 ⟨v6, rfl, hv6, hb6⟩
            obtain ⟨A6, c6, rfl, _, _, hr6, _⟩ := own_form hv6
            have hb06 := below_chain hb05 hb6
            have hr7 : Rd w6 1 A6 (nn + 4 + 8 * x.ln) (U8 (bl ++ encP x)) := by
              rw [HLL.out] at HE
              rw [HE.out]
              simp only [U8_append]
              exact hr6
            have H7 := Lib.hid hr7
            clear hv6 hb05 hb6 hro5 hro0 hr6 hr7 hb0
            go_wp2
            go_roundw
            case rel => exact ⟨j + 1, A6, nn + 4 + 8 * x.ln, c6, bl ++ encP x, by omega, by go_num, rfl, H7.out, hb06, enc_step hjl HX.out HI.out, by omega, small_step (p := fun x => x.ln ≤ 50 ∧ x.bn ≤ 200) hjl HX.out HS.out (by show _ ∧ _; omega)⟩
            case measure => simp [intOf]; omega
          · have q0 : (((x.kind : Int) % 4) == 0) = false := by rw [beq_eq_false_iff_ne]; omega
            have q1 : (((x.kind : Int) % 4) == 1) = false := by rw [beq_eq_false_iff_ne]; omega
            have q2 : (((x.kind : Int) % 4) == 2) = false := by rw [beq_eq_false_iff_ne]; omega
            have HE := Lib.hid (encP_3 x hk)
            have HK := Lib.hid hk
            clear hk
            go_wp2_with fail
            have hro5 := hro0
            have hb05 := hb0
            refine (wBytes_any X x.BA nn cc x.bn x.bc (U8 bl) (U8 x.bb) _ hro5 (one_U8 _) (hxB.below hb05) (one_U8 _) (by omega)).mono ?_
            rintro e w6 ⟨v6, rfl, hv6, hb6⟩
            obtain ⟨A6, c6, rfl, _, _, hr6, _⟩ := own_form hv6
            have hb06 := below_chain hb05 hb6
            have hr7 : Rd w6 1 A6 (nn + 4 + x.bn) (U8 (bl ++ encP x)) := by
              rw [HBB.out] at HE
              rw [HE.out]
              simp only [U8_append]
              exact hr6
            have H7 := Lib.hid hr7
            clear hv6 hb05 hb6 hro5 hro0 hr6 hr7 hb0
            go_wp2
            go_roundw
            case rel => exact ⟨j + 1, A6, nn + 4 + x.bn, c6, bl ++ encP x, by omega, by go_num, rfl, H7.out, hb06, enc_step hjl HX.out HI.out, by omega, small_step (p := fun x => x.ln ≤ 50 ∧ x.bn ≤ 200) hjl HX.out HS.out (by show _ ∧ _; omega)⟩
            case measure => simp [intOf]; omega
    · have e : j = m := by omega
      subst e
      have hall : bl = ps.flatMap encP := by rw [HI.out, List.take_of_length_le (by rw [HM.out]; exact Nat.le_refl _)]
      have hblb : ∀ y ∈ bl, y < 256 := by
        intro y hy
        rw [hall] at hy
        obtain ⟨z, hz, hy2⟩ := List.mem_flatMap.1 hy
        exact encP_bytes z (ho.1 z hz) y hy2
      have HALL := Lib.hid hall
      clear hall
      go_wp2_with fail
      refine (newReader_any X nn cc bl wr hro (by omega) hblb).mono ?_
      rintro e w2 ⟨g, bd, rfl, hw2, hg2, _, _, hb2⟩
      have hb02 : Below w.heap.size w w2 := hb.trans (hb2.mono hb.size)
      have hgw : w.heap.size ≤ g := by have := hb.size; omega
      rw [HALL.out] at hw2
      clear hb hb2 hg2 hro hblb hnn HI
      go_wp2_with fail
      go_loopw [69] (fun i wr => ∃ (j2 : Nat), j2 ≤ j ∧ i = .int .i64 (j2 : Int) ∧ WR wr g bd ((ps.drop j2).flatMap encP) false ∧ Below w.heap.size w wr)
        (fun i _ => j - (intOf i).toNat)
      case atStart => exact ⟨0, Nat.zero_le _, rfl, hw2, hb02⟩
      case round =>
        obtain ⟨j2, hj2, rfl, hw, hb⟩ := hrel
        clear hw2 hb02
        by_cases hlt2 : j2 < j
        · have hjl : j2 < ps.length := by rw [HM.out]; exact hlt2
          obtain ⟨ad, x, b, q, rfl, hxe, hxg, hq, k1, k2, k3, k4⟩ := (ho.below hb).at_ hjl
          have hsm := HS.out j2 hjl hlt2
          rw [← hxe] at hsm
          have hxw : x.good w := by rw [hxe]; exact ho.1 _ (List.getElem_mem _)
          obtain ⟨rest, hrest⟩ : ∃ rest, rest = (ps.drop (j2 + 1)).flatMap encP := ⟨_, rfl⟩
          have hsplit : (ps.drop j2).flatMap encP = encP x ++ rest := by rw [List.drop_eq_getElem_cons hjl, List.flatMap_cons, ← hxe, hrest]
          rw [hsplit] at hw
          have HRE : Hid (rest = (ps.drop (j2 + 1)).flatMap encP) := hrest
          clear hxe hsplit hrest
          have hxL := hxw.2.2.1
          have hxB := hxw.2.2.2.2.1
          have hln := hxL.len1
          have hbn := hxB.len1
          rw [len_U64] at hln
          rw [len_U8] at hbn
          have hb0 := hb.alloc hb.size (.cells #[.int .u8 (x.kind : Int), .int .u64 (x.num : Int), .slice x.LA x.ln x.lc, .slice x.BA x.bn x.bc] 53)
          have hw0 := hw.below ((Below.refl _ _).alloc (Nat.le_refl _) (.cells #[.int .u8 (x.kind : Int), .int .u64 (x.num : Int), .slice x.LA x.ln x.lc, .slice x.BA x.bn x.bc] 53)) (Nat.le_refl _)
          have hx0 := Blk.new wr 53 #[.int .u8 (x.kind : Int), .int .u64 (x.num : Int), .slice x.LA x.ln x.lc, .slice x.BA x.bn x.bc]
          have hgl := hw.lt
          have hne : some wr.heap.size ≠ some g := fun e => by injection e with e; omega
          clear hb hw hxw
          have h4 : x.kind % 4 = 0 ∨ x.kind % 4 = 1 ∨ x.kind % 4 = 2 ∨ x.kind % 4 = 3 := by omega
          rcases h4 with hk | hk | hk | hk
          · have q0 : (((x.kind : Int) % 4) == 0) = true := by rw [beq_iff_eq]; omega
            have HK := Lib.hid hk
            have HC := Lib.hid (rUint_any g bd 18446744073709551615 (encP x ++ rest) false _ hw0.drew)
            rw [rdUint_enc x rest hk hxg] at HC
            rw [cast_top] at HC
            clear hk
            go_wp2_with fail
            refine wpR_begin (Only g) (by kernel_rfl) ?_
            refine wpR_take 0 (v := ?_) (only_moves g) (by decide) (by kernel_rfl) (by kernel_rfl) (by kernel_rfl) (fun _ _ _ h => h) (wantedT (by rfl) ?_) ?_ ; rotate_left ; · ( intro w' hR ; simp only [List.getElem_cons_succ, List.getElem_cons_zero] ; go_simp ; try with_reducible rfl )
            simp only [Act.put, List.getElem_cons_succ, List.getElem_cons_zero, List.setIfInBounds_toArray, List.set_cons_zero, List.set_cons_succ]
            refine wpR_take 2 (v := ?_) (only_moves g) (by decide) (by kernel_rfl) (by kernel_rfl) (by kernel_rfl) (fun _ _ _ h => h) (wantedT (by rfl) ?_) ?_ ; rotate_left ; · ( intro w' hR ; simp only [List.getElem_cons_succ, List.getElem_cons_zero] ; go_simp ; try with_reducible rfl )
            simp only [Act.put, List.getElem_cons_succ, List.getElem_cons_zero, List.setIfInBounds_toArray, List.set_cons_zero, List.set_cons_succ]
            refine wpR_take 3 (v := .int .u64 (x.num : Int)) (only_moves g) (by decide) (by kernel_rfl) (by kernel_rfl) (by kernel_rfl) (fun _ _ _ h => h) (wantedT (by rfl) ?_) ?_ ; · ( intro w' hR ; simp only [List.getElem_cons_succ, List.getElem_cons_zero] ; have q := ((hx0.drew).grown hR hne).cell 1 ; simp at q ; go_simp )
            simp only [Act.put, List.getElem_cons_succ, List.getElem_cons_zero, List.setIfInBounds_toArray, List.set_cons_zero, List.set_cons_succ]
            refine wpR_call 1 (only_moves g) (by decide) (by kernel_rfl) (by rfl) ((HC.out).mono ?_) (fun _ => by simp only [List.getElem_cons_succ, List.getElem_cons_zero] ; go_simp)
            rintro e w2 ⟨rfl, hw2, hq2⟩
            refine ⟨_, rfl, hq2, ?_⟩
            simp only [Act.put, List.getElem_cons_succ, List.getElem_cons_zero, List.setIfInBounds_toArray, List.set_cons_zero, List.set_cons_succ]
            refine wpR_take 4 (v := ?_) (only_moves g) (by decide) (by kernel_rfl) (by kernel_rfl) (by kernel_rfl) (fun _ _ _ h => h) (wantedT (by rfl) ?_) ?_ ; rotate_left ; · ( intro w' hR ; simp only [List.getElem_cons_succ, List.getElem_cons_zero] ; go_simp ; try with_reducible rfl )
            simp only [Act.put, List.getElem_cons_succ, List.getElem_cons_zero, List.setIfInBounds_toArray, List.set_cons_zero, List.set_cons_succ]
            refine wpR_take 5 (v := ?_) (only_moves g) (by decide) (by kernel_rfl) (by kernel_rfl) (by kernel_rfl) (fun _ _ _ h => h) (wantedT (by rfl) ?_) ?_ ; rotate_left ; · ( intro w' hR ; simp only [List.getElem_cons_succ, List.getElem_cons_zero] ; go_simp ; try with_reducible rfl )
            simp only [Act.put, List.getElem_cons_succ, List.getElem_cons_zero, List.setIfInBounds_toArray, List.set_cons_zero, List.set_cons_succ]
            refine wpR_done (by kernel_rfl) ?_
            have hb2 := hb0.drew.grown hq2 hb0.size fun k hk => by injection hk with hk; omega
            have hwF := hw2
            clear hx0 hw0 hb0 hq2 hw2
            go_wp2_with fail
            refine (failed_any g bd rest false _ hwF).mono ?_
            rintro e w9 ⟨rfl, rfl⟩
            go_wp2
            go_roundw
            case rel => exact ⟨j2 + 1, by omega, by go_num, by rw [HRE.out] at hwF; exact hwF, hb2⟩
            case measure => simp [intOf]; omega
          · have q0 : (((x.kind : Int) % 4) == 0) = false := by rw [beq_eq_false_iff_ne]; omega
            have q1 : (((x.kind : Int) % 4) == 1) = true := by rw [beq_iff_eq]; omega
            have HK := Lib.hid hk
            have HC := Lib.hid (rdInt_any g bd 4294967296 (encP x ++ rest) false _ hw0.drew)
            rw [rdInt_enc x rest hk] at HC
            clear hk
            go_wp2_with fail
            refine wpR_begin (Only g) (by kernel_rfl) ?_
            refine wpR_take 0 (v := ?_) (only_moves g) (by decide) (by kernel_rfl) (by kernel_rfl) (by kernel_rfl) (fun _ _ _ h => h) (wantedT (by rfl) ?_) ?_ ; rotate_left ; · ( intro w' hR ; simp only [List.getElem_cons_succ, List.getElem_cons_zero] ; go_simp ; try with_reducible rfl )
            simp only [Act.put, List.getElem_cons_succ, List.getElem_cons_zero, List.setIfInBounds_toArray, List.set_cons_zero, List.set_cons_succ]
            refine wpR_take 2 (v := .agg #[.int .u8 (x.kind : Int), .int .u64 (x.num : Int), .slice x.LA x.ln x.lc, .slice x.BA x.bn x.bc]) (only_moves g) (by decide) (by kernel_rfl) (by kernel_rfl) (by kernel_rfl) (fun _ _ _ h => h) (wantedT (by rfl) ?_) ?_ ; · ( intro w' hR ; simp only [List.getElem_cons_succ, List.getElem_cons_zero] ; have q0 := ((hx0.drew).grown hR hne).cell 0 ; have q1 := ((hx0.drew).grown hR hne).cell 1 ; have q2 := ((hx0.drew).grown hR hne).cell 2 ; have q3 := ((hx0.drew).grown hR hne).cell 3 ; simp at q0 q1 q2 q3 ; go_simp )
            simp only [Act.put, List.getElem_cons_succ, List.getElem_cons_zero, List.setIfInBounds_toArray, List.set_cons_zero, List.set_cons_succ]
            refine wpR_call 1 (only_moves g) (by decide) (by kernel_rfl) (by rfl) ((HC.out).mono ?_) (fun _ => by simp only [List.getElem_cons_succ, List.getElem_cons_zero] ; go_simp)
            rintro e w2 ⟨rfl, hw2, hq2⟩
            refine ⟨_, rfl, hq2, ?_⟩
            simp only [Act.put, List.getElem_cons_succ, List.getElem_cons_zero, List.setIfInBounds_toArray, List.set_cons_zero, List.set_cons_succ]
            refine wpR_call 3 (only_moves g) (by decide) (by kernel_rfl) (by rfl) ((length_any x _).mono ?_) (fun _ => by simp only [List.getElem_cons_succ, List.getElem_cons_zero] ; go_simp)
            rintro e w3 ⟨rfl, hb3⟩
            refine ⟨_, rfl, below_only hb3 hw2.lt, ?_⟩
            simp only [Act.put, List.getElem_cons_succ, List.getElem_cons_zero, List.setIfInBounds_toArray, List.set_cons_zero, List.set_cons_succ]
            refine wpR_take 4 (v := ?_) (only_moves g) (by decide) (by kernel_rfl) (by kernel_rfl) (by kernel_rfl) (fun _ _ _ h => h) (wantedT (by rfl) ?_) ?_ ; rotate_left ; · ( intro w' hR ; simp only [List.getElem_cons_succ, List.getElem_cons_zero] ; go_simp ; try with_reducible rfl )
            simp only [Act.put, List.getElem_cons_succ, List.getElem_cons_zero, List.setIfInBounds_toArray, List.set_cons_zero, List.set_cons_succ]
            refine wpR_take 5 (v := ?_) (only_moves g) (by decide) (by kernel_rfl) (by kernel_rfl) (by kernel_rfl) (fun _ _ _ h => h) (wantedT (by rfl) ?_) ?_ ; rotate_left ; · ( intro w' hR ; simp only [List.getElem_cons_succ, List.getElem_cons_zero] ; go_simp ; try with_reducible rfl )
            simp only [Act.put, List.getElem_cons_succ, List.getElem_cons_zero, List.setIfInBounds_toArray, List.set_cons_zero, List.set_cons_succ]
            refine wpR_done (by kernel_rfl) ?_
            have hb2 := (hb0.drew.grown hq2 hb0.size fun k hk => by injection hk with hk; omega).trans (hb3.mono (Nat.le_trans hb0.size hq2.size))
            have hwF := (hw2.below hb3 (Nat.le_refl _))
            clear hx0 hw0 hb0 hq2 hw2 hb3
            go_wp2_with fail
            refine (failed_any g bd rest false _ hwF).mono ?_
            rintro e w9 ⟨rfl, rfl⟩
            go_wp2
            go_roundw
            case rel => exact ⟨j2 + 1, by omega, by go_num, by rw [HRE.out] at hwF; exact hwF, hb2⟩
            case measure => simp [intOf]; omega
          · have q0 : (((x.kind : Int) % 4) == 0) = false := by rw [beq_eq_false_iff_ne]; omega
            have q1 : (((x.kind : Int) % 4) == 1) = false := by rw [beq_eq_false_iff_ne]; omega
            have q2 : (((x.kind : Int) % 4) == 2) = true := by rw [beq_iff_eq]; omega
            have HK := Lib.hid hk
            clear hk
            have hx0L := (hx0.cell 2)
            simp at hx0L
            go_wp2_with fail
            obtain ⟨wq, hwq⟩ : ∃ wq, wq = wr.alloc (.cells #[.int .u8 (x.kind : Int), .int .u64 (x.num : Int), .slice x.LA x.ln x.lc, .slice x.BA x.bn x.bc] 53) := ⟨_, rfl⟩
            rw [← hwq] at hb0 hw0 hx0 ⊢
            clear hwq
            have HLn := Lib.hid hln
            clear hln
            go_loop [10, 105] (fun t i => ∃ jj mx : Nat, jj ≤ x.ln ∧ i = .int .i64 (jj : Int) ∧ t = .int .u64 (mx : Int) ∧ mx < 18446744073709551616 ∧ Hid (∀ (i : Nat) (hi : i < x.ll.length), i < jj → x.ll[i] ≤ mx))
              (fun _ i => x.ln - (intOf i).toNat)
            case atStart => exact ⟨0, 0, Nat.zero_le _, rfl, rfl, by omega, fun i hi h => absurd h (by omega)⟩
            case round =>
              obtain ⟨jj, mx, hjj, rfl, rfl, hmx, HMX⟩ := hrel
              by_cases hl3 : jj < x.ln
              · obtain ⟨ad5, u5, hLA, hu5, hc5⟩ := (hxL.below hb0).at_ hl3
                have hjl5 : jj < x.ll.length := by rw [HLn.out]; exact hl3
                obtain ⟨y, hy⟩ : ∃ y, y = x.ll[jj] := ⟨_, rfl⟩
                have hyl : y < 18446744073709551616 := by rw [hy]; exact hxg.2.2.2.1 _ (List.getElem_mem _)
                rw [at_U64 hjl5, ← hy] at hu5
                injection hu5 with hu5
                subst hu5
                have HY := Lib.hid hy
                clear hy
                have HM2 : Hid (∀ (i : Nat) (hi : i < x.ll.length), i < jj + 1 → x.ll[i] ≤ (if mx < y then y else mx)) := fun i hi h => by
                  by_cases e : i = jj
                  · subst e; rw [← HY.out]; split <;> omega
                  · have := HMX.out i hi (by omega); split <;> omega
                go_wp2
                go_round
                case rel => exact ⟨jj + 1, if mx < y then y else mx, by omega, by go_num, by split <;> rfl, by split <;> omega, HM2⟩
                case measure => simp [intOf]; omega
              · have hge : x.ln ≤ jj := by omega
                by_cases htop : mx = 18446744073709551615
                · have hT : ((mx : Int) == 18446744073709551615) = true := by rw [beq_iff_eq]; omega
                  have HT := Lib.hid hT
                  clear htop hT
                  go_wp2_with fail
                  refine wpR_begin (Only g) (by kernel_rfl) ?_
                  refine wpR_take 0 (v := ?_) (only_moves g) (by decide) (by kernel_rfl) (by kernel_rfl) (by kernel_rfl) (fun _ _ _ h => h) (wantedT (by rfl) ?_) ?_ ; rotate_left ; · ( intro w' hR ; simp only [List.getElem_cons_succ, List.getElem_cons_zero] ; go_simp ; try with_reducible rfl )
                  simp only [Act.put, List.getElem_cons_succ, List.getElem_cons_zero, List.setIfInBounds_toArray, List.set_cons_zero, List.set_cons_succ]
                  refine wpR_take 1 (v := .bool true) (only_moves g) (by decide) (by kernel_rfl) (by kernel_rfl) (by kernel_rfl) (fun _ _ _ h => h) (wantedT (by rfl) ?_) ?_ ; · ( intro w' hR ; simp only [List.getElem_cons_succ, List.getElem_cons_zero] ; rw [← HT.out] ; go_simp )
                  simp only [Act.put, List.getElem_cons_succ, List.getElem_cons_zero, List.setIfInBounds_toArray, List.set_cons_zero, List.set_cons_succ]
                  refine wpR_take 2 (v := ?_) (only_moves g) (by decide) (by kernel_rfl) (by kernel_rfl) (by kernel_rfl) (fun _ _ _ h => h) (wantedT (by rfl) ?_) ?_ ; rotate_left ; · ( intro w' hR ; simp only [List.getElem_cons_succ, List.getElem_cons_zero] ; go_simp ; try with_reducible rfl )
                  simp only [Act.put, List.getElem_cons_succ, List.getElem_cons_zero, List.setIfInBounds_toArray, List.set_cons_zero, List.set_cons_succ]
                  refine wpR_take 3 (v := undef) (only_moves g) (by decide) (by kernel_rfl) (by kernel_rfl) (by kernel_rfl) (fun _ _ _ h => h) (wantedF (by rfl)) ?_
                  simp only [Act.put, List.getElem_cons_succ, List.getElem_cons_zero, List.setIfInBounds_toArray, List.set_cons_zero, List.set_cons_succ]
                  refine wpR_take 4 (v := undef) (only_moves g) (by decide) (by kernel_rfl) (by kernel_rfl) (by kernel_rfl) (fun _ _ _ h => h) (wantedF (by rfl)) ?_
                  simp only [Act.put, List.getElem_cons_succ, List.getElem_cons_zero, List.setIfInBounds_toArray, List.set_cons_zero, List.set_cons_succ]
                  refine wpR_take 5 (v := undef) (only_moves g) (by decide) (by kernel_rfl) (by kernel_rfl) (by kernel_rfl) (fun _ _ _ h => h) (wantedF (by rfl)) ?_
                  simp only [Act.put, List.getElem_cons_succ, List.getElem_cons_zero, List.setIfInBounds_toArray, List.set_cons_zero, List.set_cons_succ]
                  refine wpR_take 6 (v := undef) (only_moves g) (by decide) (by kernel_rfl) (by kernel_rfl) (by kernel_rfl) (fun _ _ _ h => h) (wantedF (by rfl)) ?_
                  simp only [Act.put, List.getElem_cons_succ, List.getElem_cons_zero, List.setIfInBounds_toArray, List.set_cons_zero, List.set_cons_succ]
                  refine wpR_take 7 (v := undef) (only_moves g) (by decide) (by kernel_rfl) (by kernel_rfl) (by kernel_rfl) (fun _ _ _ h => h) (wantedF (by rfl)) ?_
                  simp only [Act.put, List.getElem_cons_succ, List.getElem_cons_zero, List.setIfInBounds_toArray, List.set_cons_zero, List.set_cons_succ]
                  refine wpR_take 8 (v := undef) (only_moves g) (by decide) (by kernel_rfl) (by kernel_rfl) (by kernel_rfl) (fun _ _ _ h => h) (wantedF (by rfl)) ?_
                  simp only [Act.put, List.getElem_cons_succ, List.getElem_cons_zero, List.setIfInBounds_toArray, List.set_cons_zero, List.set_cons_succ]
                  refine wpR_take 9 (v := undef) (only_moves g) (by decide) (by kernel_rfl) (by kernel_rfl) (by kernel_rfl) (fun _ _ _ h => h) (wantedF (by rfl)) ?_
                  simp only [Act.put, List.getElem_cons_succ, List.getElem_cons_zero, List.setIfInBounds_toArray, List.set_cons_zero, List.set_cons_succ]
                  refine wpR_take 10 (v := undef) (only_moves g) (by decide) (by kernel_rfl) (by kernel_rfl) (by kernel_rfl) (fun _ _ _ h => h) (wantedF (by rfl)) ?_
                  simp only [Act.put, List.getElem_cons_succ, List.getElem_cons_zero, List.setIfInBounds_toArray, List.set_cons_zero, List.set_cons_succ]
                  refine wpR_take 11 (v := undef) (only_moves g) (by decide) (by kernel_rfl) (by kernel_rfl) (by kernel_rfl) (fun _ _ _ h => h) (wantedF (by rfl)) ?_
                  simp only [Act.put, List.getElem_cons_succ, List.getElem_cons_zero, List.setIfInBounds_toArray, List.set_cons_zero, List.set_cons_succ]
                  refine wpR_take 12 (v := undef) (only_moves g) (by decide) (by kernel_rfl) (by kernel_rfl) (by kernel_rfl) (fun _ _ _ h => h) (wantedF (by rfl)) ?_
                  simp only [Act.put, List.getElem_cons_succ, List.getElem_cons_zero, List.setIfInBounds_toArray, List.set_cons_zero, List.set_cons_succ]
                  refine wpR_take 13 (v := ?_) (only_moves g) (by decide) (by kernel_rfl) (by kernel_rfl) (by kernel_rfl) (fun _ _ _ h => h) (wantedT (by rfl) ?_) ?_ ; rotate_left ; · ( intro w' hR ; simp only [List.getElem_cons_succ, List.getElem_cons_zero] ; go_simp ; try with_reducible rfl )
                  simp only [Act.put, List.getElem_cons_succ, List.getElem_cons_zero, List.setIfInBounds_toArray, List.set_cons_zero, List.set_cons_succ]
                  refine wpR_take 14 (v := ?_) (only_moves g) (by decide) (by kernel_rfl) (by kernel_rfl) (by kernel_rfl) (fun _ _ _ h => h) (wantedT (by rfl) ?_) ?_ ; rotate_left ; · ( intro w' hR ; simp only [List.getElem_cons_succ, List.getElem_cons_zero] ; go_simp ; try with_reducible rfl )
                  simp only [Act.put, List.getElem_cons_succ, List.getElem_cons_zero, List.setIfInBounds_toArray, List.set_cons_zero, List.set_cons_succ]
                  refine wpR_done (by kernel_rfl) ?_
                  have hT := HT.out
                  clear hx0 hw0
                  go_wp2
                  go_ret
                  exact ⟨rfl, hb0.drew⟩
                · have hT : ((mx : Int) == 18446744073709551615) = false := by rw [beq_eq_false_iff_ne]; omega
                  have HT := Lib.hid hT
                  have HC := Lib.hid (rdList_any g bd (mx + 1) (x.ln : Int) (encP x ++ rest) false _ hw0.drew)
                  rw [rdList_enc x rest (mx + 1) HK.out (by rw [HLn.out]; omega) (fun y hy => by obtain ⟨i, hi, rfl⟩ := List.getElem_of_mem hy; have := HMX.out i hi (by rw [HLn.out] at hi; omega); omega) HLn.out hxg, show (((mx + 1 : Nat) : Int)) = (mx : Int) + 1 from by omega] at HC
                  have hm1 : IntKind.u64.wrap ((mx : Int) + 1) = (mx : Int) + 1 := by rw [IntKind.wrap_u64]; omega
                  have hxl := hxg.2.2.2.2.2.2.1
                  have HTop := Lib.hid htop
                  clear htop hT
                  go_wp2_with fail
                  refine wpR_begin (Only g) (by kernel_rfl) ?_
                  refine wpR_take 0 (v := ?_) (only_moves g) (by decide) (by kernel_rfl) (by kernel_rfl) (by kernel_rfl) (fun _ _ _ h => h) (wantedT (by rfl) ?_) ?_ ; rotate_left ; · ( intro w' hR ; simp only [List.getElem_cons_succ, List.getElem_cons_zero] ; go_simp ; try with_reducible rfl )
                  simp only [Act.put, List.getElem_cons_succ, List.getElem_cons_zero, List.setIfInBounds_toArray, List.set_cons_zero, List.set_cons_succ]
                  refine wpR_take 1 (v := .bool false) (only_moves g) (by decide) (by kernel_rfl) (by kernel_rfl) (by kernel_rfl) (fun _ _ _ h => h) (wantedT (by rfl) ?_) ?_ ; · ( intro w' hR ; simp only [List.getElem_cons_succ, List.getElem_cons_zero] ; rw [← HT.out] ; go_simp )
                  simp only [Act.put, List.getElem_cons_succ, List.getElem_cons_zero, List.setIfInBounds_toArray, List.set_cons_zero, List.set_cons_succ]
                  refine wpR_take 2 (v := ?_) (only_moves g) (by decide) (by kernel_rfl) (by kernel_rfl) (by kernel_rfl) (fun _ _ _ h => h) (wantedT (by rfl) ?_) ?_ ; rotate_left ; · ( intro w' hR ; simp only [List.getElem_cons_succ, List.getElem_cons_zero] ; go_simp ; try with_reducible rfl )
                  simp only [Act.put, List.getElem_cons_succ, List.getElem_cons_zero, List.setIfInBounds_toArray, List.set_cons_zero, List.set_cons_succ]
                  refine wpR_take 3 (v := ?_) (only_moves g) (by decide) (by kernel_rfl) (by kernel_rfl) (by kernel_rfl) (fun _ _ _ h => h) (wantedT (by rfl) ?_) ?_ ; rotate_left ; · ( intro w' hR ; simp only [List.getElem_cons_succ, List.getElem_cons_zero] ; go_simp ; try with_reducible rfl )
                  simp only [Act.put, List.getElem_cons_succ, List.getElem_cons_zero, List.setIfInBounds_toArray, List.set_cons_zero, List.set_cons_succ]
                  refine wpR_take 4 (v := ?_) (only_moves g) (by decide) (by kernel_rfl) (by kernel_rfl) (by kernel_rfl) (fun _ _ _ h => h) (wantedT (by rfl) ?_) ?_ ; rotate_left ; · ( intro w' hR ; simp only [List.getElem_cons_succ, List.getElem_cons_zero] ; go_simp ; try with_reducible rfl )
                  simp only [Act.put, List.getElem_cons_succ, List.getElem_cons_zero, List.setIfInBounds_toArray, List.set_cons_zero, List.set_cons_succ]
                  refine wpR_take 5 (v := .slice x.LA x.ln x.lc) (only_moves g) (by decide) (by kernel_rfl) (by kernel_rfl) (by kernel_rfl) (fun _ _ _ h => h) (wantedT (by rfl) ?_) ?_ ; · ( intro w' hR ; simp only [List.getElem_cons_succ, List.getElem_cons_zero] ; have q := ((hx0.drew).grown hR hne).cell 2 ; simp at q ; go_simp )
                  simp only [Act.put, List.getElem_cons_succ, List.getElem_cons_zero, List.setIfInBounds_toArray, List.set_cons_zero, List.set_cons_succ]
                  refine wpR_take 6 (v := ?_) (only_moves g) (by decide) (by kernel_rfl) (by kernel_rfl) (by kernel_rfl) (fun _ _ _ h => h) (wantedT (by rfl) ?_) ?_ ; rotate_left ; · ( intro w' hR ; simp only [List.getElem_cons_succ, List.getElem_cons_zero] ; go_simp ; try with_reducible rfl )
                  simp only [Act.put, List.getElem_cons_succ, List.getElem_cons_zero, List.setIfInBounds_toArray, List.set_cons_zero, List.set_cons_succ]
                  refine wpR_take 7 (v := ?_) (only_moves g) (by decide) (by kernel_rfl) (by kernel_rfl) (by kernel_rfl) (fun _ _ _ h => h) (wantedT (by rfl) ?_) ?_ ; rotate_left ; · ( intro w' hR ; simp only [List.getElem_cons_succ, List.getElem_cons_zero] ; go_simp ; try with_reducible rfl )
                  simp only [Act.put, List.getElem_cons_succ, List.getElem_cons_zero, List.setIfInBounds_toArray, List.set_cons_zero, List.set_cons_succ]
                  refine wpR_take 8 (v := ?_) (only_moves g) (by decide) (by kernel_rfl) (by kernel_rfl) (by kernel_rfl) (fun _ _ _ h => h) (wantedT (by rfl) ?_) ?_ ; rotate_left ; · ( intro w' hR ; simp only [List.getElem_cons_succ, List.getElem_cons_zero] ; go_simp ; try with_reducible rfl )
                  simp only [Act.put, List.getElem_cons_succ, List.getElem_cons_zero, List.setIfInBounds_toArray, List.set_cons_zero, List.set_cons_succ]
                  refine wpR_take 10 (v := ?_) (only_moves g) (by decide) (by kernel_rfl) (by kernel_rfl) (by kernel_rfl) (fun _ _ _ h => h) (wantedT (by rfl) ?_) ?_ ; rotate_left ; · ( intro w' hR ; simp only [List.getElem_cons_succ, List.getElem_cons_zero] ; go_simp ; try with_reducible rfl )
                  simp only [Act.put, List.getElem_cons_succ, List.getElem_cons_zero, List.setIfInBounds_toArray, List.set_cons_zero, List.set_cons_succ]
                  refine wpR_take 11 (v := .slice x.LA x.ln x.lc) (only_moves g) (by decide) (by kernel_rfl) (by kernel_rfl) (by kernel_rfl) (fun _ _ _ h => h) (wantedT (by rfl) ?_) ?_ ; · ( intro w' hR ; simp only [List.getElem_cons_succ, List.getElem_cons_zero] ; have q := ((hx0.drew).grown hR hne).cell 2 ; simp at q ; go_simp )
                  simp only [Act.put, List.getElem_cons_succ, List.getElem_cons_zero, List.setIfInBounds_toArray, List.set_cons_zero, List.set_cons_succ]
                  refine wpR_call 9 (only_moves g) (by decide) (by kernel_rfl) (by rfl) ((HC.out).mono ?_) (fun _ => by simp only [List.getElem_cons_succ, List.getElem_cons_zero] ; go_simp)
                  rintro e w2 ⟨v2, rfl, hv2, hw2, hq2⟩
                  obtain ⟨A2, c2, rfl, _, _, hr2, hA2⟩ := own_form hv2
                  refine ⟨_, rfl, hq2, ?_⟩
                  simp only [Act.put, List.getElem_cons_succ, List.getElem_cons_zero, List.setIfInBounds_toArray, List.set_cons_zero, List.set_cons_succ]
                  refine wpR_call 12 (only_moves g) (by decide) (by kernel_rfl) (by rfl) ((same_any A2 x.LA _ c2 x.ln x.lc _ _ _ hr2 (hxL.below (hb0.drew.grown hq2 hb0.size (fun k hk => by injection hk with hk; omega))) (by show x.ll.length ≤ _; rw [HLn.out]; omega)).mono ?_) (fun _ => by simp only [List.getElem_cons_succ, List.getElem_cons_zero] ; go_simp)
                  rintro e w3 ⟨rfl, kk, rfl⟩
                  refine ⟨_, rfl, grown_drewN' (grown_refl' _ _) _, ?_⟩
                  simp only [Act.put, List.getElem_cons_succ, List.getElem_cons_zero, List.setIfInBounds_toArray, List.set_cons_zero, List.set_cons_succ]
                  refine wpR_take 13 (v := ?_) (only_moves g) (by decide) (by kernel_rfl) (by kernel_rfl) (by kernel_rfl) (fun _ _ _ h => h) (wantedT (by rfl) ?_) ?_ ; rotate_left ; · ( intro w' hR ; simp only [List.getElem_cons_succ, List.getElem_cons_zero] ; go_simp ; try with_reducible rfl )
                  simp only [Act.put, List.getElem_cons_succ, List.getElem_cons_zero, List.setIfInBounds_toArray, List.set_cons_zero, List.set_cons_succ]
                  refine wpR_take 14 (v := ?_) (only_moves g) (by decide) (by kernel_rfl) (by kernel_rfl) (by kernel_rfl) (fun _ _ _ h => h) (wantedT (by rfl) ?_) ?_ ; rotate_left ; · ( intro w' hR ; simp only [List.getElem_cons_succ, List.getElem_cons_zero] ; go_simp ; try with_reducible rfl )
                  simp only [Act.put, List.getElem_cons_succ, List.getElem_cons_zero, List.setIfInBounds_toArray, List.set_cons_zero, List.set_cons_succ]
                  refine wpR_done (by kernel_rfl) ?_
                  have hb2 := below_drewN' (hb0.drew.grown hq2 hb0.size fun k hk => by injection hk with hk; omega) kk
                  have hwF := hw2.drewN kk
                  have hT := HT.out
                  clear hx0 hw0 hb0 hq2 hw2 hr2 hv2 hA2 hm1
                  go_wp2_with fail
                  refine (failed_any g bd rest false _ hwF).mono ?_
                  rintro e w9 ⟨rfl, rfl⟩
                  go_wp2
                  go_roundw
                  case rel => exact ⟨j2 + 1, by omega, by go_num, by rw [HRE.out] at hwF; exact hwF, hb2⟩
                  case measure => simp [intOf]; omega
          · have q0 : (((x.kind : Int) % 4) == 0) = false := by rw [beq_eq_false_iff_ne]; omega
            have q1 : (((x.kind : Int) % 4) == 1) = false := by rw [beq_eq_false_iff_ne]; omega
            have q2 : (((x.kind : Int) % 4) == 2) = false := by rw [beq_eq_false_iff_ne]; omega
            have HK := Lib.hid hk
            have HC := Lib.hid (rdBytes_any g bd (x.bn : Int) (encP x ++ rest) false _ hw0.drew)
            rw [rdBytes_enc x rest hk (by omega) hbn] at HC
            clear hk
            go_wp2_with fail
            refine wpR_begin (Only g) (by kernel_rfl) ?_
            refine wpR_take 0 (v := ?_) (only_moves g) (by decide) (by kernel_rfl) (by kernel_rfl) (by kernel_rfl) (fun _ _ _ h => h) (wantedT (by rfl) ?_) ?_ ; rotate_left ; · ( intro w' hR ; simp only [List.getElem_cons_succ, List.getElem_cons_zero] ; go_simp ; try with_reducible rfl )
            simp only [Act.put, List.getElem_cons_succ, List.getElem_cons_zero, List.setIfInBounds_toArray, List.set_cons_zero, List.set_cons_succ]
            refine wpR_take 1 (v := ?_) (only_moves g) (by decide) (by kernel_rfl) (by kernel_rfl) (by kernel_rfl) (fun _ _ _ h => h) (wantedT (by rfl) ?_) ?_ ; rotate_left ; · ( intro w' hR ; simp only [List.getElem_cons_succ, List.getElem_cons_zero] ; go_simp ; try with_reducible rfl )
            simp only [Act.put, List.getElem_cons_succ, List.getElem_cons_zero, List.setIfInBounds_toArray, List.set_cons_zero, List.set_cons_succ]
            refine wpR_take 2 (v := .slice x.BA x.bn x.bc) (only_moves g) (by decide) (by kernel_rfl) (by kernel_rfl) (by kernel_rfl) (fun _ _ _ h => h) (wantedT (by rfl) ?_) ?_ ; · ( intro w' hR ; simp only [List.getElem_cons_succ, List.getElem_cons_zero] ; have q := ((hx0.drew).grown hR hne).cell 3 ; simp at q ; go_simp )
            simp only [Act.put, List.getElem_cons_succ, List.getElem_cons_zero, List.setIfInBounds_toArray, List.set_cons_zero, List.set_cons_succ]
            refine wpR_take 3 (v := ?_) (only_moves g) (by decide) (by kernel_rfl) (by kernel_rfl) (by kernel_rfl) (fun _ _ _ h => h) (wantedT (by rfl) ?_) ?_ ; rotate_left ; · ( intro w' hR ; simp only [List.getElem_cons_succ, List.getElem_cons_zero] ; go_simp ; try with_reducible rfl )
            simp only [Act.put, List.getElem_cons_succ, List.getElem_cons_zero, List.setIfInBounds_toArray, List.set_cons_zero, List.set_cons_succ]
            refine wpR_take 6 (v := ?_) (only_moves g) (by decide) (by kernel_rfl) (by kernel_rfl) (by kernel_rfl) (fun _ _ _ h => h) (wantedT (by rfl) ?_) ?_ ; rotate_left ; · ( intro w' hR ; simp only [List.getElem_cons_succ, List.getElem_cons_zero] ; go_simp ; try with_reducible rfl )
            simp only [Act.put, List.getElem_cons_succ, List.getElem_cons_zero, List.setIfInBounds_toArray, List.set_cons_zero, List.set_cons_succ]
            refine wpR_take 7 (v := .slice x.BA x.bn x.bc) (only_moves g) (by decide) (by kernel_rfl) (by kernel_rfl) (by kernel_rfl) (fun _ _ _ h => h) (wantedT (by rfl) ?_) ?_ ; · ( intro w' hR ; simp only [List.getElem_cons_succ, List.getElem_cons_zero] ; have q := ((hx0.drew).grown hR hne).cell 3 ; simp at q ; go_simp )
            simp only [Act.put, List.getElem_cons_succ, List.getElem_cons_zero, List.setIfInBounds_toArray, List.set_cons_zero, List.set_cons_succ]
            refine wpR_take 8 (only_moves g) (by decide) (by kernel_rfl) (by kernel_rfl) (by kernel_rfl) (fun _ _ _ h => h) (wantedT (by rfl) (fun w' hR => conv_op (e := 5) Try.underlying22 Try.underlying5 Try.underlying9 rfl rfl (hxB.below (hb0.drew.grown hR hb0.size (fun k hk => by injection hk with hk; omega))))) ?_
            simp only [Act.put, List.getElem_cons_succ, List.getElem_cons_zero, List.setIfInBounds_toArray, List.set_cons_zero, List.set_cons_succ]
            refine wpR_call 4 (only_moves g) (by decide) (by kernel_rfl) (by rfl) ((HC.out).mono ?_) (fun _ => by simp only [List.getElem_cons_succ, List.getElem_cons_zero] ; go_simp)
            rintro e w2 ⟨v2, rfl, hv2, hw2, hq2⟩
            obtain ⟨A2, c2, rfl, _, _, hr2, hA2⟩ := own_form hv2
            have hn2 : ∀ ad, A2 = some ad → some ad.block ≠ some g := fun ad e h => by injection h with h; have h1 := (hA2 ad e).1; have h2 := hgl; simp at h1; omega
            refine ⟨_, rfl, hq2, ?_⟩
            simp only [Act.put, List.getElem_cons_succ, List.getElem_cons_zero, List.setIfInBounds_toArray, List.set_cons_zero, List.set_cons_succ]
            refine wpR_take 5 (only_moves g) (by decide) (by kernel_rfl) (by kernel_rfl) (by kernel_rfl) (fun _ _ _ h => h) (wantedT (by rfl) (fun w' hR => conv_op (e := 5) Try.underlying22 Try.underlying5 Try.underlying9 rfl rfl (hr2.grown hR hn2))) ?_
            simp only [Act.put, List.getElem_cons_succ, List.getElem_cons_zero, List.setIfInBounds_toArray, List.set_cons_zero, List.set_cons_succ]
            refine wpR_take 9 (v := ?_) (only_moves g) (by decide) (by kernel_rfl) (by kernel_rfl) (by kernel_rfl) (fun _ _ _ h => h) (wantedT (by rfl) ?_) ?_ ; rotate_left ; · ( intro w' hR ; simp only [List.getElem_cons_succ, List.getElem_cons_zero] ; go_simp ; try with_reducible rfl )
            simp only [Act.put, List.getElem_cons_succ, List.getElem_cons_zero, List.setIfInBounds_toArray, List.set_cons_zero, List.set_cons_succ]
            refine wpR_take 10 (v := ?_) (only_moves g) (by decide) (by kernel_rfl) (by kernel_rfl) (by kernel_rfl) (fun _ _ _ h => h) (wantedT (by rfl) ?_) ?_ ; rotate_left ; · ( intro w' hR ; simp only [List.getElem_cons_succ, List.getElem_cons_zero] ; go_simp ; try with_reducible rfl )
            simp only [Act.put, List.getElem_cons_succ, List.getElem_cons_zero, List.setIfInBounds_toArray, List.set_cons_zero, List.set_cons_succ]
            refine wpR_done (by kernel_rfl) ?_
            have hb2 := hb0.drew.grown hq2 hb0.size fun k hk => by injection hk with hk; omega
            have hwF := hw2
            clear hx0 hw0 hb0 hq2 hw2 hr2 hv2 hn2 hA2
            go_wp2_with fail
            refine (failed_any g bd rest false _ hwF).mono ?_
            rintro e w9 ⟨rfl, rfl⟩
            go_wp2
            go_roundw
            case rel => exact ⟨j2 + 1, by omega, by go_num, by rw [HRE.out] at hwF; exact hwF, hb2⟩
            case measure => simp [intOf]; omega
        · have e : j2 = j := by omega
          subst e
          have hnil : (ps.drop j2).flatMap encP = [] := by rw [List.drop_of_length_le (by rw [HM.out]; exact Nat.le_refl _)]; rfl
          have HD := Lib.hid (done_any g bd _ false wr hw)
          rw [hnil] at HD
          clear hnil hw
          go_wp2_with fail
          refine HD.out.mono ?_
          rintro e w5 ⟨rfl, kk, rfl⟩
          go_wp2
          go_ret
          exact ⟨by simp, below_drewN' hb kk⟩

set_option maxHeartbeats 400000 in
theorem wireRoundTrip_out (C : Option Addr) (m d : Nat) (w : World) (h : 20 < m) (hm : m ≤ 9223372036854775807) :
    Calls Try.prog 9 #[.slice C m d] w fun e w' => e = .returned (.bool true) ∧ Below w.heap.size w w' := by
  have hd0 : decide ((20 : Int) < (m : Int)) = true := by simp; omega
  go_enter Try.func9, Try.ntmps9
  go_wp2_with fail
  refine (awake_any _).mono ?_
  rintro e w1 ⟨rfl, hb1⟩
  go_wp2_with fail
  refine (awake_any _).mono ?_
  rintro e w2 ⟨rfl, hb2⟩
  go_wp2
  go_ret
  exact ⟨rfl, below_chain hb1 hb2⟩

theorem wireRoundTrip_walk (W : World) (C : Option Addr) (m d : Nat) (f1 : Fits Try.prog W 51 (Value.slice C m d).cells.toList) :
    Calls Try.prog 9 #[.slice C m d] W fun e W' => e = .returned (.bool true) ∧ Below W.heap.size W W' := by
  obtain ⟨os, h5, h6, h7⟩ := arg_parts f1
  by_cases h : 20 < m
  · exact wireRoundTrip_out C m d W h (by omega)
  · exact wireRoundTrip_in C m d os W h7 h5 (by omega)
end Go.Proofs.Ytohddeebmofoeaa
