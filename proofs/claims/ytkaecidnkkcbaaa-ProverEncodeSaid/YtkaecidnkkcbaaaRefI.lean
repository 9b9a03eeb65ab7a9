/-
  The document's side: ref19.Value, Holds, First, Satisfied.
-/
import Derived.Test.YtkaecidnkkcbaaaRefH
import Derived.Test.YtkaecidnkkcbaaaRefF
namespace Go.Proofs.Ytkaecidnkkcbaaa
open Go.RowKit

/-- A slice of one-cell elements, from its base. -/
theorem rd_base {w : World} {A : Option Addr} {n : Nat} {xs : List Value} (h : Rd w 1 A n xs) (hn : 0 < n) : ∃ b q, A = some ⟨b, q, none⟩ ∧ b < w.heap.size ∧ ∀ k, k < n → w.cell? ⟨b, q + k, none⟩ = xs[k]? := by
  obtain ⟨ad, rfl, hc⟩ := h.2 hn
  have hl := h.len1
  have h0 := hc 0 _ (List.getElem?_eq_getElem (by omega))
  obtain ⟨b, q, rfl⟩ : ∃ b q, ad = ⟨b, q, none⟩ := by
    have hs := World.cell?_spot h0
    rw [add_zero'] at hs
    obtain ⟨b, q, s⟩ := ad
    simp at hs
    subst hs
    exact ⟨b, q, rfl⟩
  refine ⟨b, q, rfl, World.block_lt_of_cell? _ _ (by rw [add_zero'] at h0; exact h0), fun k hk => ?_⟩
  rw [← add_none, hc k _ (List.getElem?_eq_getElem (by omega)), List.getElem?_eq_getElem (by omega)]

def linStep (p : Nat) (ws : List Nat) (s : Nat) (t : Int × Nat) : Nat := if 0 ≤ t.1 ∧ t.1 < (ws.length : Int) then (s + t.2 * ws.getD t.1.toNat 0 % p) % p else s
def linVal (p : Nat) (l : List (Int × Nat)) (ws : List Nat) : Nat := l.foldl (linStep p ws) 0
theorem linVal_snoc (p : Nat) (l : List (Int × Nat)) (ws : List Nat) (j : Nat) (h : j < l.length) : linVal p (l.take (j + 1)) ws = linStep p ws (linVal p (l.take j) ws) (l.getD j (0, 0)) := by
  unfold linVal
  rw [List.take_succ_eq_append_getElem h, List.foldl_append]
  simp [h]

set_option maxRecDepth 100000 in
set_option maxHeartbeats 4000000 in
theorem rValue_any (p : Nat) (A B : Option Addr) (len c n d : Nat) (l : List (Int × Nat)) (ws : List Nat) (w : World) (hl : RLin w [.slice A len c] l) (hw : RWd w [.slice B n d] ws) (hp : okP p = true) :
    Calls Try.prog 61 #[.int .u64 p, .slice A len c, .slice B n d] w fun e w' => e = .returned (.int .u64 (linVal p l ws : Nat)) ∧ Below w.heap.size w w' := by
  obtain ⟨A', n', c', he, hlen, hnc, hmx, hrd⟩ := hl
  simp at he
  obtain ⟨rfl, rfl, rfl⟩ := he
  subst hlen
  obtain ⟨B', m', d', he, hmd, hmy, hrw, hlw⟩ := hw
  simp at he
  obtain ⟨rfl, rfl, rfl⟩ := he
  have hm : ws.length = n := by have := hrw.len1; rwa [len_U64] at this
  subst hm
  have g0 : (l.length : Int) ≤ 9223372036854775807 := by
    simp [maxLen] at hmx
    omega
  go_enter Try.func61, Try.ntmps61
  go_wp2_with fail
  go_loopw [7, 8] (fun s i wr => ∃ j : Nat, j ≤ l.length ∧ i = .int .i64 (j : Int) ∧ s = .int .u64 (linVal p (l.take j) ws : Nat) ∧ Below w.heap.size w wr)
    (fun _ i _ => l.length - (intOf i).toNat)
  case atStart => exact ⟨0, Nat.zero_le _, rfl, rfl, Below.refl _ _⟩
  case round =>
    obtain ⟨j, hj, rfl, rfl, hb⟩ := hrel
    by_cases hlt : j < l.length
    · have HS := Lib.hid (linVal_snoc p l ws j hlt)
      revert HS
      generalize linVal p (l.take j) ws = s
      intro HS
      obtain ⟨b, q, rfl⟩ := hrd.base (by omega) (by omega)
      have hrd' := hrd.below kept_RTerm hb
      obtain ⟨c1, c2⟩ := RLin.at_ hrd' hlt
      have hbl := World.block_lt_of_cell? _ _ c1
      have HL := Lib.hid hlt
      have g1 : (0 : Int) ≤ (j : Int) := by omega
      have g2 : (j : Int) < (l.length : Int) := by omega
      have HW := Lib.hid (fun (k : Nat) (hk : k < ws.length) => (rd_base (hrw.below hb) (by omega)).imp fun b' h => h.imp fun q' h => (⟨h.1, h.2.1, (h.2.2 k hk).trans (at_U64 hk)⟩ : _ ∧ _ ∧ _ = some (Value.int .u64 (ws[k] : Int))))
      revert c1 c2 HS
      generalize hx : (l.getD j (0, 0)) = t
      obtain ⟨x, y⟩ := t
      clear hx
      simp only
      intro HS c1 c2
      clear hrd hrd' hrw
      by_cases z1 : x < 0
      · have d1 : decide (0 ≤ x) = false := decide_eq_false (by omega)
        have HE := Lib.hid (show linVal p (l.take (j + 1)) ws = s by rw [HS.out, linStep, if_neg (by simp; omega)])
        go_wp2_with fail
        go_roundw
        case rel => exact ⟨j + 1, by omega, by go_num, by rw [HE.out], hb⟩
        case measure => simp [intOf]; omega
      · obtain ⟨k, rfl⟩ := Int.eq_ofNat_of_zero_le (show 0 ≤ x by omega)
        by_cases z2 : k < ws.length
        · have d1 : decide ((0 : Int) ≤ (k : Int)) = true := decide_eq_true (by omega)
          have d2 : decide ((k : Int) < (ws.length : Int)) = true := decide_eq_true (by omega)
          obtain ⟨b', q', rfl, hbl', c3⟩ := HW.out k z2
          have HE := Lib.hid (show linVal p (l.take (j + 1)) ws = (s + y * ws[k] % p) % p by rw [HS.out, linStep, if_pos (by simp; omega)]; show (s + y * ws.getD ((k : Int)).toNat 0 % p) % p = _; rw [Int.toNat_natCast, List.getD_eq_getElem?_getD, List.getElem?_eq_getElem z2, Option.getD_some])
          clear HW HS
          revert c3 HE
          generalize ws[k] = v
          have HM := Lib.hid (fun w => rMul_any p y v w hp)
          revert HM
          generalize y * v % p = m
          intro HM c3 HE
          have i1 : (0 : Int) ≤ (k : Int) := by omega
          have i2 : (k : Int) < (ws.length : Int) := by omega
          go_wp2_with fail
          refine wpO_begin (Later) [16, 17] [0, 1, 2, 3, 4, 5, 6, 7, 8, 9, 10, 11, 12, 13, 14, 15, 16, 17, 18] (by kernel_rfl) (by kernel_rfl) ?_
          refine wpO_start (later_moves) ?_
          intro Wc hacc
          repeat (first | (refine wpO_skip (later_moves) rfl rfl (fun _ _ _ h => h) ?_ ; simp only [Act.put, List.setIfInBounds_toArray, List.set_cons_zero, List.set_cons_succ]) | (refine wpO_light (v := ?_) (later_moves) rfl rfl (fun _ _ _ h => h) ?_ ?_ ; rotate_left ; (· (intro w' hR ; (first | have hcells := later_cellsD ((later_moves).trans _ _ _ hacc hR) | skip) ; go_simp ; try with_reducible rfl)) ; simp only [Act.put, List.setIfInBounds_toArray, List.set_cons_zero, List.set_cons_succ]))
          refine wpO_call (later_moves) rfl rfl rfl (fun _ => by go_simp <;> rfl) ((HM.out _).mono ?_)
          rintro e w2 ⟨rfl, hb2⟩
          refine ⟨_, rfl, hb2, ?_⟩
          replace hacc := (later_moves).trans _ _ _ hacc (hb2)
          simp only [Act.put, List.setIfInBounds_toArray, List.set_cons_zero, List.set_cons_succ]
          repeat (first | (refine wpO_skip (later_moves) rfl rfl (fun _ _ _ h => h) ?_ ; simp only [Act.put, List.setIfInBounds_toArray, List.set_cons_zero, List.set_cons_succ]) | (refine wpO_light (v := ?_) (later_moves) rfl rfl (fun _ _ _ h => h) ?_ ?_ ; rotate_left ; (· (intro w' hR ; (first | have hcells := later_cellsD ((later_moves).trans _ _ _ hacc hR) | skip) ; go_simp ; try with_reducible rfl)) ; simp only [Act.put, List.setIfInBounds_toArray, List.set_cons_zero, List.set_cons_succ]))
          refine wpO_call (later_moves) rfl rfl rfl (fun _ => by go_simp <;> rfl) ((rAdd_any p s m _ hp).mono ?_)
          rintro e w3 ⟨rfl, hb3⟩
          refine ⟨_, rfl, hb3, ?_⟩
          replace hacc := (later_moves).trans _ _ _ hacc (hb3)
          simp only [Act.put, List.setIfInBounds_toArray, List.set_cons_zero, List.set_cons_succ]
          repeat (first | (refine wpO_skip (later_moves) rfl rfl (fun _ _ _ h => h) ?_ ; simp only [Act.put, List.setIfInBounds_toArray, List.set_cons_zero, List.set_cons_succ]) | (refine wpO_light (v := ?_) (later_moves) rfl rfl (fun _ _ _ h => h) ?_ ?_ ; rotate_left ; (· (intro w' hR ; (first | have hcells := later_cellsD ((later_moves).trans _ _ _ hacc hR) | skip) ; go_simp ; try with_reducible rfl)) ; simp only [Act.put, List.setIfInBounds_toArray, List.set_cons_zero, List.set_cons_succ]))
          refine wpO_done ?_
          go_wp2
          go_roundw
          case rel => exact ⟨j + 1, by omega, by go_num, by rw [HE.out]; rfl, below_chain hb.drew hacc⟩
          case measure => simp [intOf]; omega
        · have d1 : decide ((0 : Int) ≤ (k : Int)) = true := decide_eq_true (by omega)
          have d2 : decide ((k : Int) < (ws.length : Int)) = false := decide_eq_false (by omega)
          have HE := Lib.hid (show linVal p (l.take (j + 1)) ws = s by rw [HS.out, linStep, if_neg (by simp; omega)])
          go_wp2_with fail
          go_roundw
          case rel => exact ⟨j + 1, by omega, by go_num, by rw [HE.out], hb⟩
          case measure => simp [intOf]; omega
    · go_wp2
      go_ret
      have e : j = l.length := by omega
      subst e
      exact ⟨by rw [List.take_length]; rfl, hb⟩
/-- Some bool is handed back. -/
def SomeBool (e : Ending) : Prop := ∃ b, e = .returned (.bool b)

def rowOkV (p : Nat) (r : RowR) (ws : List Nat) : Bool := decide (linVal p r.a ws * linVal p r.b ws % p = linVal p r.c ws)

set_option maxRecDepth 100000 in
set_option maxHeartbeats 1000000 in
theorem rHolds_any (p : Nat) (x y z : Value) (B : Option Addr) (n d : Nat) (r : RowR) (ws : List Nat) (w : World) (hx : RLin w [x] r.a) (hy : RLin w [y] r.b) (hz : RLin w [z] r.c) (hw : RWd w [.slice B n d] ws) (hp : okP p = true) :
    Calls Try.prog 54 #[.int .u64 p, .agg #[x, y, z], .slice B n d] w fun e w' => SomeBool e ∧ Below w.heap.size w w' := by
  obtain ⟨A1, n1, c1, rfl⟩ := RSl.slc hx
  obtain ⟨A2, n2, c2, rfl⟩ := RSl.slc hy
  obtain ⟨A3, n3, c3, rfl⟩ := RSl.slc hz
  have hb0 : Below w.heap.size w (w.alloc (.cells #[.slice A1 n1 c1, .slice A2 n2 c2, .slice A3 n3 c3] 100)) := (Below.refl _ w).alloc (Nat.le_refl _) _
  have hB := Blk.new w 100 #[.slice A1 n1 c1, .slice A2 n2 c2, .slice A3 n3 c3]
  have HP := Lib.hid hp
  clear hp
  revert hb0 hB
  generalize hw0 : w.alloc (.cells #[.slice A1 n1 c1, .slice A2 n2 c2, .slice A3 n3 c3] 100) = w0
  intro hb0 hB
  have HW0 := Lib.hid hw0
  clear hw0
  have k0 : w0.cell? ⟨w.heap.size, 0, none⟩ = some (.slice A1 n1 c1) := hB.cell 0
  have k1 : w0.cell? ⟨w.heap.size, 1, none⟩ = some (.slice A2 n2 c2) := hB.cell 1
  have k2 : w0.cell? ⟨w.heap.size, 2, none⟩ = some (.slice A3 n3 c3) := hB.cell 2
  have hlt := hB.lt
  go_enter Try.func54, Try.ntmps54
  go_wp2_with fail
  rw [HW0.out]
  refine wpO_begin (Later) [5, 10, 11, 16] [0, 1, 2, 3, 4, 6, 7, 8, 9, 12, 13, 14, 15, 5, 10, 11, 16, 17, 18] (by kernel_rfl) (by kernel_rfl) ?_
  refine wpO_start (later_moves) ?_
  intro Wc hacc
  repeat (first | (refine wpO_skip (later_moves) rfl rfl (fun _ _ _ h => h) ?_ ; simp only [Act.put, List.setIfInBounds_toArray, List.set_cons_zero, List.set_cons_succ]) | (refine wpO_light (v := ?_) (later_moves) rfl rfl (fun _ _ _ h => h) ?_ ?_ ; rotate_left ; (· (intro w' hR ; (first | have hcells := later_cellsD ((later_moves).trans _ _ _ hacc hR) | skip) ; go_simp ; try with_reducible rfl)) ; simp only [Act.put, List.setIfInBounds_toArray, List.set_cons_zero, List.set_cons_succ]))
  refine wpO_call (later_moves) rfl rfl rfl (fun _ => by go_simp <;> rfl) ((rValue_any p _ _ _ _ _ _ r.a ws _ (kept_RLin _ _ _ _ (below_chain hb0.drew hacc) hx) (kept_RWd _ _ _ _ (below_chain hb0.drew hacc) hw) HP.out).mono ?_)
  rintro e w2 ⟨rfl, hb2⟩
  refine ⟨_, rfl, hb2, ?_⟩
  replace hacc := (later_moves).trans _ _ _ hacc (hb2)
  simp only [Act.put, List.setIfInBounds_toArray, List.set_cons_zero, List.set_cons_succ]
  repeat (first | (refine wpO_skip (later_moves) rfl rfl (fun _ _ _ h => h) ?_ ; simp only [Act.put, List.setIfInBounds_toArray, List.set_cons_zero, List.set_cons_succ]) | (refine wpO_light (v := ?_) (later_moves) rfl rfl (fun _ _ _ h => h) ?_ ?_ ; rotate_left ; (· (intro w' hR ; (first | have hcells := later_cellsD ((later_moves).trans _ _ _ hacc hR) | skip) ; go_simp ; try with_reducible rfl)) ; simp only [Act.put, List.setIfInBounds_toArray, List.set_cons_zero, List.set_cons_succ]))
  refine wpO_call (later_moves) rfl rfl rfl (fun _ => by go_simp <;> rfl) ((rValue_any p _ _ _ _ _ _ r.b ws _ (kept_RLin _ _ _ _ (below_chain hb0.drew hacc) hy) (kept_RWd _ _ _ _ (below_chain hb0.drew hacc) hw) HP.out).mono ?_)
  rintro e w3 ⟨rfl, hb3⟩
  refine ⟨_, rfl, hb3, ?_⟩
  replace hacc := (later_moves).trans _ _ _ hacc (hb3)
  simp only [Act.put, List.setIfInBounds_toArray, List.set_cons_zero, List.set_cons_succ]
  repeat (first | (refine wpO_skip (later_moves) rfl rfl (fun _ _ _ h => h) ?_ ; simp only [Act.put, List.setIfInBounds_toArray, List.set_cons_zero, List.set_cons_succ]) | (refine wpO_light (v := ?_) (later_moves) rfl rfl (fun _ _ _ h => h) ?_ ?_ ; rotate_left ; (· (intro w' hR ; (first | have hcells := later_cellsD ((later_moves).trans _ _ _ hacc hR) | skip) ; go_simp ; try with_reducible rfl)) ; simp only [Act.put, List.setIfInBounds_toArray, List.set_cons_zero, List.set_cons_succ]))
  refine wpO_call (later_moves) rfl rfl rfl (fun _ => by go_simp <;> rfl) ((rMul_any p (linVal p r.a ws) (linVal p r.b ws) _ HP.out).mono ?_)
  rintro e w4 ⟨rfl, hb4⟩
  refine ⟨_, rfl, hb4, ?_⟩
  replace hacc := (later_moves).trans _ _ _ hacc (hb4)
  simp only [Act.put, List.setIfInBounds_toArray, List.set_cons_zero, List.set_cons_succ]
  repeat (first | (refine wpO_skip (later_moves) rfl rfl (fun _ _ _ h => h) ?_ ; simp only [Act.put, List.setIfInBounds_toArray, List.set_cons_zero, List.set_cons_succ]) | (refine wpO_light (v := ?_) (later_moves) rfl rfl (fun _ _ _ h => h) ?_ ?_ ; rotate_left ; (· (intro w' hR ; (first | have hcells := later_cellsD ((later_moves).trans _ _ _ hacc hR) | skip) ; go_simp ; try with_reducible rfl)) ; simp only [Act.put, List.setIfInBounds_toArray, List.set_cons_zero, List.set_cons_succ]))
  refine wpO_call (later_moves) rfl rfl rfl (fun _ => by go_simp <;> rfl) ((rValue_any p _ _ _ _ _ _ r.c ws _ (kept_RLin _ _ _ _ (below_chain hb0.drew hacc) hz) (kept_RWd _ _ _ _ (below_chain hb0.drew hacc) hw) HP.out).mono ?_)
  rintro e w5 ⟨rfl, hb5⟩
  refine ⟨_, rfl, hb5, ?_⟩
  replace hacc := (later_moves).trans _ _ _ hacc (hb5)
  simp only [Act.put, List.setIfInBounds_toArray, List.set_cons_zero, List.set_cons_succ]
  repeat (first | (refine wpO_skip (later_moves) rfl rfl (fun _ _ _ h => h) ?_ ; simp only [Act.put, List.setIfInBounds_toArray, List.set_cons_zero, List.set_cons_succ]) | (refine wpO_light (v := ?_) (later_moves) rfl rfl (fun _ _ _ h => h) ?_ ?_ ; rotate_left ; (· (intro w' hR ; (first | have hcells := later_cellsD ((later_moves).trans _ _ _ hacc hR) | skip) ; go_simp ; try with_reducible rfl)) ; simp only [Act.put, List.setIfInBounds_toArray, List.set_cons_zero, List.set_cons_succ]))
  refine wpO_done ?_
  go_wp2
  go_ret
  exact ⟨⟨_, rfl⟩, below_chain hb0.drew hacc⟩

/-- Some number is handed back. -/
def SomeInt (e : Ending) : Prop := ∃ n : Int, e = .returned (.int .i64 n)

theorem tabOk_p {p : Nat} {pub vars : Int} {rows : List RowR} (h : tabOk p pub vars rows = true) : okP p = true := by
  unfold tabOk at h
  simp only [Bool.and_eq_true] at h
  exact h.1.1.1.1.1

set_option maxRecDepth 100000 in
set_option maxHeartbeats 4000000 in
theorem rFirst_any (p : Nat) (pub vars : Int) (A B : Option Addr) (n c m d : Nat) (rows : List RowR) (ws : List Nat) (w : World) (hr : RSl 3 RRow w [.slice A n c] rows) (hw : RWd w [.slice B m d] ws)
    (ht : tabOk p pub vars rows = true) (ha : asgOk p vars ws = true) :
    Calls Try.prog 44 #[tabV p pub vars (.slice A n c), .slice B m d] w fun e w' => SomeInt e ∧ Below w.heap.size w w' := by
  have hok := tabOk_p ht
  have hp := (okP_lt hok).2
  have HV := Lib.hid (fun w' (hb : Below w.heap.size w w') => rValid_any p pub vars A n c rows w' (kept_RSl kept_RRow _ _ _ _ hb hr) hp)
  have HA := Lib.hid (fun w' (hb : Below w.heap.size w w') => rAssign_any p pub vars (.slice A n c) B m d ws w' (kept_RWd _ _ _ _ hb hw) hp)
  rw [ht] at HV
  rw [ha] at HA
  clear ht ha
  have hr0 := hr
  obtain ⟨A', n', c', he, hlen, hnc, hmx, hrd⟩ := hr
  simp at he
  obtain ⟨rfl, rfl, rfl⟩ := he
  subst hlen
  unfold tabV
  have gm : (rows.length : Int) ≤ 9223372036854775807 := by
    simp [maxLen] at hmx
    omega
  have hb0 : Below w.heap.size w (w.alloc (.cells #[.int .u64 (p : Int), .int .i64 pub, .int .i64 vars, .slice A rows.length c] 25)) := (Below.refl _ w).alloc (Nat.le_refl _) _
  have hB := Blk.new w 25 #[.int .u64 (p : Int), .int .i64 pub, .int .i64 vars, .slice A rows.length c]
  have HP := Lib.hid hp
  have HO := Lib.hid hok
  clear hp hok
  go_enter Try.func44, Try.ntmps44
  go_wp2_with (first | (go_at_call 42; refine (HA.out _ (below_chain hb0 hb)).mono ?_; rintro e w2 ⟨rfl, hb2⟩) | (go_at_call 41; refine (HV.out _ hb0).mono ?_; rintro e w1 ⟨rfl, hb⟩; have hB1 := hB.below hb (by simp); have t0 : w1.cell? ⟨w.heap.size, 0, none⟩ = some (.int .u64 (p : Int)) := hB1.cell 0; have t1 : w1.cell? ⟨w.heap.size, 1, none⟩ = some (.int .i64 pub) := hB1.cell 1; have t2 : w1.cell? ⟨w.heap.size, 2, none⟩ = some (.int .i64 vars) := hB1.cell 2; have t3 : w1.cell? ⟨w.heap.size, 3, none⟩ = some (.slice A rows.length c) := hB1.cell 3))
  clear t0 t1 t2 t3
  have hB2 := hB1.below hb2 hB1.lt
  have hbw := below_chain (below_chain hb0 hb) hb2
  clear hB1 hB hb hb2 hb0
  go_loopw [5] (fun i wr => ∃ j : Nat, j ≤ rows.length ∧ i = .int .i64 (j : Int) ∧ Below w2.heap.size w2 wr)
    (fun i _ => rows.length - (intOf i).toNat)
  case atStart => exact ⟨0, Nat.zero_le _, rfl, Below.refl _ _⟩
  case round =>
    obtain ⟨j, hj, rfl, hbr⟩ := hrel
    have hBr := hB2.below hbr hB2.lt
    have t0 : wr.cell? ⟨w.heap.size, 0, none⟩ = some (.int .u64 (p : Int)) := hBr.cell 0
    have t3 : wr.cell? ⟨w.heap.size, 3, none⟩ = some (.slice A rows.length c) := hBr.cell 3
    have l0 := hBr.lt
    by_cases hlt : j < rows.length
    · obtain ⟨b, q, rfl⟩ := hrd.base (by omega) (by omega)
      obtain ⟨cs, -, hc, x, y, z, rfl, hx, hy, hz⟩ := (hrd.below kept_RRow (below_chain hbw hbr)).get hlt
      have c0 : wr.cell? ⟨b, q + j * 3, none⟩ = some x := hc 0 (by omega)
      have c1 : wr.cell? ⟨b, q + j * 3 + 1, none⟩ = some y := hc 1 (by omega)
      have c2 : wr.cell? ⟨b, q + j * 3 + 2, none⟩ = some z := hc 2 (by omega)
      have l1 : b < wr.heap.size := World.block_lt_of_cell? _ _ c0
      have g1 : (0 : Int) ≤ (j : Int) := by omega
      have g2 : (j : Int) < (rows.length : Int) := by omega
      clear hc
      go_wp2_with fail
      refine wpO_begin (Later) [8] [0, 1, 2, 3, 4, 5, 6, 7, 8, 9] (by kernel_rfl) (by kernel_rfl) ?_
      refine wpO_start (later_moves) ?_
      intro Wc hacc
      repeat (first | (refine wpO_skip (later_moves) rfl rfl (fun _ _ _ h => h) ?_ ; simp only [Act.put, List.setIfInBounds_toArray, List.set_cons_zero, List.set_cons_succ]) | (refine wpO_light (v := ?_) (later_moves) rfl rfl (fun _ _ _ h => h) ?_ ?_ ; rotate_left ; (· (intro w' hR ; (first | have hcells := later_cellsD ((later_moves).trans _ _ _ hacc hR) | skip) ; go_simp ; try with_reducible rfl)) ; simp only [Act.put, List.setIfInBounds_toArray, List.set_cons_zero, List.set_cons_succ]))
      refine wpO_call (later_moves) rfl rfl rfl (fun _ => by go_simp <;> rfl) ((rHolds_any p x y z B m d rows[j] ws _ (kept_RLin _ _ _ _ hacc hx) (kept_RLin _ _ _ _ hacc hy) (kept_RLin _ _ _ _ hacc hz) (kept_RWd _ _ _ _ (below_chain (below_chain hbw hbr.drew) hacc) hw) HO.out).mono ?_)
      rintro e w3 ⟨⟨bo, rfl⟩, hb3⟩
      refine ⟨_, rfl, hb3, ?_⟩
      replace hacc := (later_moves).trans _ _ _ hacc (hb3)
      simp only [Act.put, List.setIfInBounds_toArray, List.set_cons_zero, List.set_cons_succ]
      repeat (first | (refine wpO_skip (later_moves) rfl rfl (fun _ _ _ h => h) ?_ ; simp only [Act.put, List.setIfInBounds_toArray, List.set_cons_zero, List.set_cons_succ]) | (refine wpO_light (v := ?_) (later_moves) rfl rfl (fun _ _ _ h => h) ?_ ?_ ; rotate_left ; (· (intro w' hR ; (first | have hcells := later_cellsD ((later_moves).trans _ _ _ hacc hR) | skip) ; go_simp ; try with_reducible rfl)) ; simp only [Act.put, List.setIfInBounds_toArray, List.set_cons_zero, List.set_cons_succ]))
      refine wpO_done ?_
      cases bo
      · go_wp2
        go_ret
        exact ⟨⟨_, rfl⟩, below_chain (below_chain hbw hbr.drew) hacc⟩
      · go_wp2
        go_roundw
        case rel => exact ⟨j + 1, by omega, by go_num, below_chain hbr.drew hacc⟩
        case measure => simp [intOf]; omega
    · go_wp2
      go_ret
      exact ⟨⟨_, rfl⟩, below_chain hbw hbr⟩

set_option maxRecDepth 100000 in
set_option maxHeartbeats 1000000 in
theorem rSatisfied_any (p : Nat) (pub vars : Int) (A B : Option Addr) (n c m d : Nat) (rows : List RowR) (ws : List Nat) (w : World) (hr : RSl 3 RRow w [.slice A n c] rows) (hw : RWd w [.slice B m d] ws)
    (ht : tabOk p pub vars rows = true) (ha : asgOk p vars ws = true) :
    Calls Try.prog 21 #[tabV p pub vars (.slice A n c), .slice B m d] w fun e w' => SomeBool e ∧ Below w.heap.size w w' := by
  have hok := tabOk_p ht
  have hp := (okP_lt hok).2
  have HV := Lib.hid (fun w' (hb : Below w.heap.size w w') => rValid_any p pub vars A n c rows w' (kept_RSl kept_RRow _ _ _ _ hb hr) hp)
  have HA := Lib.hid (fun w' (hb : Below w.heap.size w w') => rAssign_any p pub vars (.slice A n c) B m d ws w' (kept_RWd _ _ _ _ hb hw) hp)
  have HF := Lib.hid (fun w' (hb : Below w.heap.size w w') => rFirst_any p pub vars A B n c m d rows ws w' (kept_RSl kept_RRow _ _ _ _ hb hr) (kept_RWd _ _ _ _ hb hw) ht ha)
  rw [ht] at HV
  rw [ha] at HA
  clear ht ha hp hok
  obtain ⟨A', n', c', he, -⟩ := hr
  simp at he
  obtain ⟨rfl, rfl, rfl⟩ := he
  unfold tabV
  have hb0 : Below w.heap.size w (w.alloc (.cells #[.int .u64 (p : Int), .int .i64 pub, .int .i64 vars, .slice A n c] 25)) := (Below.refl _ w).alloc (Nat.le_refl _) _
  have hB := Blk.new w 25 #[.int .u64 (p : Int), .int .i64 pub, .int .i64 vars, .slice A n c]
  go_enter Try.func21, Try.ntmps21
  go_wp2_with (first | (go_at_call 44; refine (HF.out _ (below_chain (below_chain hb0 hb) hb2)).mono ?_; rintro e w3 ⟨⟨x, rfl⟩, hb3⟩) | (go_at_call 42; refine (HA.out _ (below_chain hb0 hb)).mono ?_; rintro e w2 ⟨rfl, hb2⟩; clear t0 t1 t2 t3; have hB2 := hB1.below hb2 hB1.lt; have t0 : w2.cell? ⟨w.heap.size, 0, none⟩ = some (.int .u64 (p : Int)) := hB2.cell 0; have t1 : w2.cell? ⟨w.heap.size, 1, none⟩ = some (.int .i64 pub) := hB2.cell 1; have t2 : w2.cell? ⟨w.heap.size, 2, none⟩ = some (.int .i64 vars) := hB2.cell 2; have t3 : w2.cell? ⟨w.heap.size, 3, none⟩ = some (.slice A n c) := hB2.cell 3) | (go_at_call 41; refine (HV.out _ hb0).mono ?_; rintro e w1 ⟨rfl, hb⟩; have hB1 := hB.below hb (by simp); have t0 : w1.cell? ⟨w.heap.size, 0, none⟩ = some (.int .u64 (p : Int)) := hB1.cell 0; have t1 : w1.cell? ⟨w.heap.size, 1, none⟩ = some (.int .i64 pub) := hB1.cell 1; have t2 : w1.cell? ⟨w.heap.size, 2, none⟩ = some (.int .i64 vars) := hB1.cell 2; have t3 : w1.cell? ⟨w.heap.size, 3, none⟩ = some (.slice A n c) := hB1.cell 3))
  go_ret
  exact ⟨⟨_, rfl⟩, below_chain (below_chain (below_chain hb0 hb) hb2) hb3⟩
end Go.Proofs.Ytkaecidnkkcbaaa

