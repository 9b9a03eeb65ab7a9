/- A part of the proof: RefI. No condition. -/
import Derived.Test.YtakjnmojigechaaGreatJA10
import Derived.Test.YtakjnmojigechaaGreatJA14

namespace Go.Proofs.YtakjnmojigechaaGreat
open Go.RowKit
theorem rd_base {w : World} {A : Option Addr} {n : Nat} {xs : List Value} (h : Rd w 1 A n xs) (hn : 0 < n) : ∃ b q, A = some ⟨b, q, none⟩ ∧ b < w.heap.size ∧ ∀ k, k < n → w.cell? ⟨b, q + k, none⟩ = xs[k]? := by
  obtain ⟨ad, rfl, hc⟩ := h.2 hn
  have hl := h.len1
  have h0 := hc 0 _ (List.getElem?_eq_getElem (by omega))
  obtain ⟨b, q, rfl⟩ : ∃ b q, ad = ⟨b, q, none⟩ := by
    have hs := World.cell?_spot h0
    rw [add_zero'] at hs
    obtain ⟨b, q, s⟩ := ad
    simp at hs
    subst hs
    exact ⟨b, q, rfl⟩
  refine ⟨b, q, rfl, World.block_lt_of_cell? _ _ (by rw [add_zero'] at h0; exact h0), fun k hk => ?_⟩
  rw [← add_none, hc k _ (List.getElem?_eq_getElem (by omega)), List.getElem?_eq_getElem (by omega)]
def linStep (p : Nat) (ws : List Nat) (s : Nat) (t : Int × Nat) : Nat := if 0 ≤ t.1 ∧ t.1 < (ws.length : Int) then (s + t.2 * ws.getD t.1.toNat 0 % p) % p else s
def linVal (p : Nat) (l : List (Int × Nat)) (ws : List Nat) : Nat := l.foldl (linStep p ws) 0
theorem linVal_snoc (p : Nat) (l : List (Int × Nat)) (ws : List Nat) (j : Nat) (h : j < l.length) : linVal p (l.take (j + 1)) ws = linStep p ws (linVal p (l.take j) ws) (l.getD j (0, 0)) := by
  unfold linVal
  rw [List.take_succ_eq_append_getElem h, List.foldl_append]
  simp [h]
set_option maxRecDepth 100000 in
set_option maxHeartbeats 4000000 in
theorem rValue_any (p : Nat) (A B : Option Addr) (len c n d : Nat) (l : List (Int × Nat)) (ws : List Nat) (w : World) (hl : RLin w [.slice A len c] l) (hw : RWd w [.slice B n d] ws) (hp : okP p = true) :
    Calls Tryz.prog 94 #[.int .u64 p, .slice A len c, .slice B n d] w fun e w' => e = .returned (.int .u64 (linVal p l ws : Nat)) ∧ Below w.heap.size w w' := by
  obtain ⟨A', n', c', he, hlen, hnc, hmx, hrd⟩ := hl
  simp at he
  obtain ⟨rfl, rfl, rfl⟩ := he
  subst hlen
  obtain ⟨B', m', d', he, hmd, hmy, hrw, hlw⟩ := hw
  simp at he
  obtain ⟨rfl, rfl, rfl⟩ := he
  have hm : ws.length = n := by have := hrw.len1; rwa [len_U64] at this
  subst hm
  have g0 : (l.length : Int) ≤ 9223372036854775807 := by
    simp [maxLen] at hmx
    omega
  go_enter Tryz.func94, Tryz.ntmps94
  go_wp2_with fail
  go_loopw [7, 8] (fun s i wr => ∃ j : Nat, j ≤ l.length ∧ i = .int .i64 (j : Int) ∧ s = .int .u64 (linVal p (l.take j) ws : Nat) ∧ Below w.heap.size w wr)
    (fun _ i _ => l.length - (intOf i).toNat)
  case atStart => exact ⟨0, Nat.zero_le _, rfl, rfl, Below.refl _ _⟩
  case round =>
    obtain ⟨j, hj, rfl, rfl, hb⟩ := hrel
    by_cases hlt : j < l.length
    · have HS := Lib.hid (linVal_snoc p l ws j hlt)
      revert HS
      generalize linVal p (l.take j) ws = s
      intro HS
      obtain ⟨b, q, rfl⟩ := hrd.base (by omega) (by omega)
      have hrd' := hrd.below kept_RTerm hb
      obtain ⟨c1, c2⟩ := RLin.at_ hrd' hlt
      have hbl := World.block_lt_of_cell? _ _ c1
      have HL := Lib.hid hlt
      have g1 : (0 : Int) ≤ (j : Int) := by omega
      have g2 : (j : Int) < (l.length : Int) := by omega
      have HW := Lib.hid (fun (k : Nat) (hk : k < ws.length) => (rd_base (hrw.below hb) (by omega)).imp fun b' h => h.imp fun q' h => (⟨h.1, h.2.1, (h.2.2 k hk).trans (at_U64 hk)⟩ : _ ∧ _ ∧ _ = some (Value.int .u64 (ws[k] : Int))))
      revert c1 c2 HS
      generalize hx : (l.getD j (0, 0)) = t
      obtain ⟨x, y⟩ := t
      clear hx
      simp only
      intro HS c1 c2
      clear hrd hrd' hrw
      by_cases z1 : x < 0
      · have d1 : decide (0 ≤ x) = false := decide_eq_false (by omega)
        have HE := Lib.hid (show linVal p (l.take (j + 1)) ws = s by rw [HS.out, linStep, if_neg (by simp; omega)])
        go_wp2_with fail
        go_roundw
        case rel => exact ⟨j + 1, by omega, by go_num, by rw [HE.out], hb⟩
        case measure => simp [intOf]; omega
      · obtain ⟨k, rfl⟩ := Int.eq_ofNat_of_zero_le (show 0 ≤ x by omega)
        by_cases z2 : k < ws.length
        · have d1 : decide ((0 : Int) ≤ (k : Int)) = true := decide_eq_true (by omega)
          have d2 : decide ((k : Int) < (ws.length : Int)) = true := decide_eq_true (by omega)
          obtain ⟨b', q', rfl, hbl', c3⟩ := HW.out k z2
          have HE := Lib.hid (show linVal p (l.take (j + 1)) ws = (s + y * ws[k] % p) % p by rw [HS.out, linStep, if_pos (by simp; omega)]; show (s + y * ws.getD ((k : Int)).toNat 0 % p) % p = _; rw [Int.toNat_natCast, List.getD_eq_getElem?_getD, List.getElem?_eq_getElem z2, Option.getD_some])
          clear HW HS
          revert c3 HE
          generalize ws[k] = v
          have HM := Lib.hid (fun w => rMul_any p y v w hp)
          revert HM
          generalize y * v % p = m
          intro HM c3 HE
          have i1 : (0 : Int) ≤ (k : Int) := by omega
          have i2 : (k : Int) < (ws.length : Int) := by omega
          go_wp2_with fail
          refine wpO_begin (Later) [16, 17] [0, 1, 2, 3, 4, 5, 6, 7, 8, 9, 10, 11, 12, 13, 14, 15, 16, 17, 18] (by kernel_rfl) (by kernel_rfl) ?_
          refine wpO_start (later_moves) ?_
          intro Wc hacc
          repeat (first | (refine wpO_skip (later_moves) rfl rfl (fun _ _ _ h => h) ?_ ; simp only [Act.put, List.setIfInBounds_toArray, List.set_cons_zero, List.set_cons_succ]) | (refine wpO_light (v := ?_) (later_moves) rfl rfl (fun _ _ _ h => h) ?_ ?_ ; rotate_left ; (· (intro w' hR ; (first | have hcells := later_cellsD ((later_moves).trans _ _ _ hacc hR) | skip) ; go_simp ; try with_reducible rfl)) ; simp only [Act.put, List.setIfInBounds_toArray, List.set_cons_zero, List.set_cons_succ]))
          refine wpO_call (later_moves) rfl rfl rfl (fun _ => by go_simp <;> rfl) ((HM.out _).mono ?_)
          rintro e w2 ⟨rfl, hb2⟩
          refine ⟨_, rfl, hb2, ?_⟩
          replace hacc := (later_moves).trans _ _ _ hacc (hb2)
          simp only [Act.put, List.setIfInBounds_toArray, List.set_cons_zero, List.set_cons_succ]
          repeat (first | (refine wpO_skip (later_moves) rfl rfl (fun _ _ _ h => h) ?_ ; simp only [Act.put, List.setIfInBounds_toArray, List.set_cons_zero, List.set_cons_succ]) | (refine wpO_light (v := ?_) (later_moves) rfl rfl (fun _ _ _ h => h) ?_ ?_ ; rotate_left ; (· (intro w' hR ; (first | have hcells := later_cellsD ((later_moves).trans _ _ _ hacc hR) | skip) ; go_simp ; try with_reducible rfl)) ; simp only [Act.put, List.setIfInBounds_toArray, List.set_cons_zero, List.set_cons_succ]))
          refine wpO_call (later_moves) rfl rfl rfl (fun _ => by go_simp <;> rfl) ((rAdd_any p s m _ hp).mono ?_)
          rintro e w3 ⟨rfl, hb3⟩
          refine ⟨_, rfl, hb3, ?_⟩
          replace hacc := (later_moves).trans _ _ _ hacc (hb3)
          simp only [Act.put, List.setIfInBounds_toArray, List.set_cons_zero, List.set_cons_succ]
          repeat (first | (refine wpO_skip (later_moves) rfl rfl (fun _ _ _ h => h) ?_ ; simp only [Act.put, List.setIfInBounds_toArray, List.set_cons_zero, List.set_cons_succ]) | (refine wpO_light (v := ?_) (later_moves) rfl rfl (fun _ _ _ h => h) ?_ ?_ ; rotate_left ; (· (intro w' hR ; (first | have hcells := later_cellsD ((later_moves).trans _ _ _ hacc hR) | skip) ; go_simp ; try with_reducible rfl)) ; simp only [Act.put, List.setIfInBounds_toArray, List.set_cons_zero, List.set_cons_succ]))
          refine wpO_done ?_
          go_wp2
          go_roundw
          case rel => exact ⟨j + 1, by omega, by go_num, by rw [HE.out]; rfl, below_chain hb.drew hacc⟩
          case measure => simp [intOf]; omega
        · have d1 : decide ((0 : Int) ≤ (k : Int)) = true := decide_eq_true (by omega)
          have d2 : decide ((k : Int) < (ws.length : Int)) = false := decide_eq_false (by omega)
          have HE := Lib.hid (show linVal p (l.take (j + 1)) ws = s by rw [HS.out, linStep, if_neg (by simp; omega)])
          go_wp2_with fail
          go_roundw
          case rel => exact ⟨j + 1, by omega, by go_num, by rw [HE.out], hb⟩
          case measure => simp [intOf]; omega
    · go_wp2
      go_ret
      have e : j = l.length := by omega
      subst e
      exact ⟨by rw [List.take_length]; rfl, hb⟩
def SomeBool (e : Ending) : Prop := ∃ b, e = .returned (.bool b)
theorem tabOk_p {p : Nat} {pub vars : Int} {rows : List RowR} (h : tabOk p pub vars rows = true) : okP p = true := by
  unfold tabOk at h
  simp only [Bool.and_eq_true] at h
  exact h.1.1.1.1.1
end Go.Proofs.YtakjnmojigechaaGreat
