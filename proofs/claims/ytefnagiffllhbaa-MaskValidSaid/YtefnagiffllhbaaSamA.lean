/-
  ref04.Same, ref01.Same (words); ref24.Same (rows of words).
-/
import Derived.Test.YtefnagiffllhbaaWd
import Derived.Test.YtefnagiffllhbaaOrdG
namespace Go.Proofs.Ytefnagiffllhbaa
open Go.RowKit

theorem same_take {l1 l2 : List Nat} {k : Nat} (h : l1.take k = l2.take k) (h1 : k < l1.length) (h2 : k < l2.length) (e : l1.getD k 0 = l2.getD k 0) : l1.take (k + 1) = l2.take (k + 1) := by
  rw [lw_snoc l1 k h1, lw_snoc l2 k h2, h, e]
theorem same_not {l1 l2 : List Nat} {k : Nat} (e : l1.getD k 0 ≠ l2.getD k 0) : decide (l1 = l2) = false := decide_eq_false fun h => e (by rw [h])

set_option maxRecDepth 100000 in
set_option maxHeartbeats 1000000 in
theorem rSame04_any (A1 A2 : Option Addr) (n1 c1 n2 c2 : Nat) (l1 l2 : List Nat) (w : World) (h1 : RWd w [.slice A1 n1 c1] l1) (h2 : RWd w [.slice A2 n2 c2] l2) :
    Calls Try.prog 62 #[.slice A1 n1 c1, .slice A2 n2 c2] w fun e w' => e = .returned (.bool (decide (l1 = l2))) ∧ Below w.heap.size w w' := by
  obtain ⟨rfl, a1, a2, a3, r1⟩ := lw_at h1
  obtain ⟨rfl, b1, b2, b3, r2⟩ := lw_at h2
  have gm := lw_max a1 a2
  have gm2 := lw_max b1 b2
  clear h1 h2 a1 a2 b1 b2 a3 b3
  by_cases hn : l1.length = l2.length
  rotate_left
  · have t1 : ((l1.length : Int) != (l2.length : Int)) = true := by rw [bne_iff_ne]; omega
    have t2 : ((l1.length : Int) == (l2.length : Int)) = false := by rw [beq_eq_false_iff_ne]; omega
    have HF := Lib.hid (show decide (l1 = l2) = false from decide_eq_false fun h => hn (by rw [h]))
    rw [HF.out]
    generalize l1.length = m1 at *
    generalize l2.length = m2 at *
    clear r1 r2 hn
    go_enter Try.func62, Try.ntmps62
    go_wp2
    go_ret
    exact ⟨rfl, Below.refl _ _⟩
  have t1 : ((l1.length : Int) != (l2.length : Int)) = false := by rw [bne_eq_false_iff_eq]; omega
  have t2 : ((l1.length : Int) == (l2.length : Int)) = true := by rw [beq_iff_eq]; omega
  obtain ⟨n, hn1⟩ : ∃ n, l1.length = n := ⟨_, rfl⟩
  have hn2 : l2.length = n := by omega
  rw [hn1] at r1
  rw [hn2] at r2
  rw [hn1, hn2] at t1 t2
  rw [hn1] at gm
  rw [hn1, hn2]
  obtain ⟨ans, ha⟩ : ∃ ans, ans = decide (l1 = l2) := ⟨_, rfl⟩
  rw [← ha]
  have HA := Lib.hid ha
  have H1 := Lib.hid hn1
  have H2 := Lib.hid hn2
  clear hn hn1 hn2 gm2 ha
  go_enter Try.func62, Try.ntmps62
  go_wp2_with fail
  go_loopw [5] (fun y wr => ∃ i : Nat, i ≤ n ∧ y = .int .i64 (i : Int) ∧ Hid (l1.take i = l2.take i) ∧ Below w.heap.size w wr) (fun y _ => n - (intOf y).toNat)
  case atStart => exact ⟨0, Nat.zero_le _, rfl, rfl, Below.refl _ _⟩
  case round =>
    obtain ⟨i, hi, rfl, HT, hbr⟩ := hrel
    by_cases hlt : i < n
    · have g1 : (0 : Int) ≤ (i : Int) := by omega
      have g2 : (i : Int) < (n : Int) := by omega
      have q1 := r1.below hbr
      have q2 := r2.below hbr
      rw [← H1.out] at q1
      rw [← H2.out] at q2
      obtain ⟨x1, y1, rfl, v1, d1⟩ := lw_get q1 (j := i) (by rw [H1.out]; exact hlt)
      obtain ⟨x2, y2, rfl, v2, d2⟩ := lw_get q2 (j := i) (by rw [H2.out]; exact hlt)
      clear q1 q2
      by_cases he : l1.getD i 0 = l2.getD i 0
      · have HT2 := Lib.hid (same_take HT.out (by rw [H1.out]; exact hlt) (by rw [H2.out]; exact hlt) he)
        rw [← he] at d2
        generalize l1.getD i 0 = z at *
        have u1 : ((z : Int) != (z : Int)) = false := by rw [bne_eq_false_iff_eq]
        have u2 : ((z : Int) == (z : Int)) = true := by rw [beq_iff_eq]
        clear he HT
        go_wp2_with fail
        refine wpGO_begin (Later) (later_moves) [] [] [0, 1, 2, 3, 4, 5, 6, 7, 8] (by kernel_rfl) (by kernel_rfl) ?_
        refine wpGO_start (later_moves) ?_
        intro Wc hacc
        repeat (first | (refine wpGO_skip (later_moves) rfl rfl rfl rfl (fun _ _ _ h => h) ?_ ; simp only [Act.put, List.setIfInBounds_toArray, List.set_cons_zero, List.set_cons_succ]) | (refine wpGO_light (v := ?_) (later_moves) rfl rfl rfl rfl (fun _ _ _ h => h) ?_ ?_ ; rotate_left ; (· (intro w' hR ; (first | have hcells := later_cellsD ((later_moves).trans _ _ _ hacc hR) | skip) ; go_simp ; try with_reducible rfl)) ; simp only [Act.put, List.setIfInBounds_toArray, List.set_cons_zero, List.set_cons_succ]))
        refine wpGO_done rfl ?_
        intro wd hRd
        replace hacc := (later_moves).trans _ _ _ hacc hRd
        clear hRd
        go_wp2
        replace hbr := below_chain hbr.drew hacc
        go_roundw
        case rel => exact ⟨i + 1, by omega, by go_num, HT2.out, hbr⟩
        case measure => simp [intOf]; omega
      · have HF := Lib.hid (HA.out.trans (same_not he))
        generalize l1.getD i 0 = z1 at *
        generalize l2.getD i 0 = z2 at *
        have u1 : ((z1 : Int) != (z2 : Int)) = true := by rw [bne_iff_ne]; omega
        have u2 : ((z1 : Int) == (z2 : Int)) = false := by rw [beq_eq_false_iff_ne]; omega
        clear he HT
        go_wp2_with fail
        refine wpGO_begin (Later) (later_moves) [] [] [0, 1, 2, 3, 4, 5, 6, 7, 8] (by kernel_rfl) (by kernel_rfl) ?_
        refine wpGO_start (later_moves) ?_
        intro Wc hacc
        repeat (first | (refine wpGO_skip (later_moves) rfl rfl rfl rfl (fun _ _ _ h => h) ?_ ; simp only [Act.put, List.setIfInBounds_toArray, List.set_cons_zero, List.set_cons_succ]) | (refine wpGO_light (v := ?_) (later_moves) rfl rfl rfl rfl (fun _ _ _ h => h) ?_ ?_ ; rotate_left ; (· (intro w' hR ; (first | have hcells := later_cellsD ((later_moves).trans _ _ _ hacc hR) | skip) ; go_simp ; try with_reducible rfl)) ; simp only [Act.put, List.setIfInBounds_toArray, List.set_cons_zero, List.set_cons_succ]))
        refine wpGO_done rfl ?_
        intro wd hRd
        replace hacc := (later_moves).trans _ _ _ hacc hRd
        clear hRd
        go_wp2
        go_ret
        exact ⟨by rw [HF.out]; rfl, below_chain hbr.drew hacc⟩
    · obtain rfl : i = n := by omega
      have HF := Lib.hid (HA.out.trans (decide_eq_true (by have := HT.out; rwa [← H1.out, List.take_length, H1.out, ← H2.out, List.take_length] at this)))
      go_wp2
      go_ret
      exact ⟨by rw [HF.out]; rfl, hbr⟩

set_option maxRecDepth 100000 in
set_option maxHeartbeats 1000000 in
theorem rSame01_any (A1 A2 : Option Addr) (n1 c1 n2 c2 : Nat) (l1 l2 : List Nat) (w : World) (h1 : RWd w [.slice A1 n1 c1] l1) (h2 : RWd w [.slice A2 n2 c2] l2) :
    Calls Try.prog 21 #[.slice A1 n1 c1, .slice A2 n2 c2] w fun e w' => e = .returned (.bool (decide (l1 = l2))) ∧ Below w.heap.size w w' := by
  obtain ⟨rfl, a1, a2, a3, r1⟩ := lw_at h1
  obtain ⟨rfl, b1, b2, b3, r2⟩ := lw_at h2
  have gm := lw_max a1 a2
  have gm2 := lw_max b1 b2
  clear h1 h2 a1 a2 b1 b2 a3 b3
  by_cases hn : l1.length = l2.length
  rotate_left
  · have t1 : ((l1.length : Int) != (l2.length : Int)) = true := by rw [bne_iff_ne]; omega
    have t2 : ((l1.length : Int) == (l2.length : Int)) = false := by rw [beq_eq_false_iff_ne]; omega
    have HF := Lib.hid (show decide (l1 = l2) = false from decide_eq_false fun h => hn (by rw [h]))
    rw [HF.out]
    generalize l1.length = m1 at *
    generalize l2.length = m2 at *
    clear r1 r2 hn
    go_enter Try.func21, Try.ntmps21
    go_wp2
    go_ret
    exact ⟨rfl, Below.refl _ _⟩
  have t1 : ((l1.length : Int) != (l2.length : Int)) = false := by rw [bne_eq_false_iff_eq]; omega
  have t2 : ((l1.length : Int) == (l2.length : Int)) = true := by rw [beq_iff_eq]; omega
  obtain ⟨n, hn1⟩ : ∃ n, l1.length = n := ⟨_, rfl⟩
  have hn2 : l2.length = n := by omega
  rw [hn1] at r1
  rw [hn2] at r2
  rw [hn1, hn2] at t1 t2
  rw [hn1] at gm
  rw [hn1, hn2]
  obtain ⟨ans, ha⟩ : ∃ ans, ans = decide (l1 = l2) := ⟨_, rfl⟩
  rw [← ha]
  have HA := Lib.hid ha
  have H1 := Lib.hid hn1
  have H2 := Lib.hid hn2
  clear hn hn1 hn2 gm2 ha
  go_enter Try.func21, Try.ntmps21
  go_wp2_with fail
  go_loopw [5] (fun y wr => ∃ i : Nat, i ≤ n ∧ y = .int .i64 (i : Int) ∧ Hid (l1.take i = l2.take i) ∧ Below w.heap.size w wr) (fun y _ => n - (intOf y).toNat)
  case atStart => exact ⟨0, Nat.zero_le _, rfl, rfl, Below.refl _ _⟩
  case round =>
    obtain ⟨i, hi, rfl, HT, hbr⟩ := hrel
    by_cases hlt : i < n
    · have g1 : (0 : Int) ≤ (i : Int) := by omega
      have g2 : (i : Int) < (n : Int) := by omega
      have q1 := r1.below hbr
      have q2 := r2.below hbr
      rw [← H1.out] at q1
      rw [← H2.out] at q2
      obtain ⟨x1, y1, rfl, v1, d1⟩ := lw_get q1 (j := i) (by rw [H1.out]; exact hlt)
      obtain ⟨x2, y2, rfl, v2, d2⟩ := lw_get q2 (j := i) (by rw [H2.out]; exact hlt)
      clear q1 q2
      by_cases he : l1.getD i 0 = l2.getD i 0
      · have HT2 := Lib.hid (same_take HT.out (by rw [H1.out]; exact hlt) (by rw [H2.out]; exact hlt) he)
        rw [← he] at d2
        generalize l1.getD i 0 = z at *
        have u1 : ((z : Int) != (z : Int)) = false := by rw [bne_eq_false_iff_eq]
        have u2 : ((z : Int) == (z : Int)) = true := by rw [beq_iff_eq]
        clear he HT
        go_wp2_with fail
        refine wpGO_begin (Later) (later_moves) [] [] [0, 1, 2, 3, 4, 5, 6, 7, 8] (by kernel_rfl) (by kernel_rfl) ?_
        refine wpGO_start (later_moves) ?_
        intro Wc hacc
        repeat (first | (refine wpGO_skip (later_moves) rfl rfl rfl rfl (fun _ _ _ h => h) ?_ ; simp only [Act.put, List.setIfInBounds_toArray, List.set_cons_zero, List.set_cons_succ]) | (refine wpGO_light (v := ?_) (later_moves) rfl rfl rfl rfl (fun _ _ _ h => h) ?_ ?_ ; rotate_left ; (· (intro w' hR ; (first | have hcells := later_cellsD ((later_moves).trans _ _ _ hacc hR) | skip) ; go_simp ; try with_reducible rfl)) ; simp only [Act.put, List.setIfInBounds_toArray, List.set_cons_zero, List.set_cons_succ]))
        refine wpGO_done rfl ?_
        intro wd hRd
        replace hacc := (later_moves).trans _ _ _ hacc hRd
        clear hRd
        go_wp2
        replace hbr := below_chain hbr.drew hacc
        go_roundw
        case rel => exact ⟨i + 1, by omega, by go_num, HT2.out, hbr⟩
        case measure => simp [intOf]; omega
      · have HF := Lib.hid (HA.out.trans (same_not he))
        generalize l1.getD i 0 = z1 at *
        generalize l2.getD i 0 = z2 at *
        have u1 : ((z1 : Int) != (z2 : Int)) = true := by rw [bne_iff_ne]; omega
        have u2 : ((z1 : Int) == (z2 : Int)) = false := by rw [beq_eq_false_iff_ne]; omega
        clear he HT
        go_wp2_with fail
        refine wpGO_begin (Later) (later_moves) [] [] [0, 1, 2, 3, 4, 5, 6, 7, 8] (by kernel_rfl) (by kernel_rfl) ?_
        refine wpGO_start (later_moves) ?_
        intro Wc hacc
        repeat (first | (refine wpGO_skip (later_moves) rfl rfl rfl rfl (fun _ _ _ h => h) ?_ ; simp only [Act.put, List.setIfInBounds_toArray, List.set_cons_zero, List.set_cons_succ]) | (refine wpGO_light (v := ?_) (later_moves) rfl rfl rfl rfl (fun _ _ _ h => h) ?_ ?_ ; rotate_left ; (· (intro w' hR ; (first | have hcells := later_cellsD ((later_moves).trans _ _ _ hacc hR) | skip) ; go_simp ; try with_reducible rfl)) ; simp only [Act.put, List.setIfInBounds_toArray, List.set_cons_zero, List.set_cons_succ]))
        refine wpGO_done rfl ?_
        intro wd hRd
        replace hacc := (later_moves).trans _ _ _ hacc hRd
        clear hRd
        go_wp2
        go_ret
        exact ⟨by rw [HF.out]; rfl, below_chain hbr.drew hacc⟩
    · obtain rfl : i = n := by omega
      have HF := Lib.hid (HA.out.trans (decide_eq_true (by have := HT.out; rwa [← H1.out, List.take_length, H1.out, ← H2.out, List.take_length] at this)))
      go_wp2
      go_ret
      exact ⟨by rw [HF.out]; rfl, hbr⟩

theorem same_takeL {l1 l2 : List (List Nat)} {k : Nat} (h : l1.take k = l2.take k) (h1 : k < l1.length) (h2 : k < l2.length) (e : l1[k] = l2[k]) : l1.take (k + 1) = l2.take (k + 1) := by
  rw [List.take_succ_eq_append_getElem h1, List.take_succ_eq_append_getElem h2, h, e]
/-- A list of rows that lies in memory. -/
def RRows (w : World) (cs : List Value) (l : List (List Nat)) : Prop := RSl 1 RWd w cs l
theorem kept_RRows : Kept RRows := kept_RSl kept_RWd
theorem rows_at {w : World} {A : Option Addr} {n c : Nat} {l : List (List Nat)} (h : RRows w [.slice A n c] l) : l.length = n ∧ n ≤ c ∧ c ≤ maxLen ∧ RdL w 1 RWd A l := by
  obtain ⟨A', n', c', he, h1, h2, h3, h4⟩ := h
  simp at he
  obtain ⟨rfl, rfl, rfl⟩ := he
  exact ⟨h1, h2, h3, h4⟩
theorem spot_none {w : World} {A : Option Addr} {l : List (List Nat)} (h : RdL w 1 RWd A l) (hl : 0 < l.length) : ∃ b q, A = some ⟨b, q, none⟩ := by
  obtain ⟨a, cs, e, h1, hc, -⟩ := h 0 hl
  have h0 := hc 0 (by omega)
  rw [List.getElem?_eq_getElem (by omega)] at h0
  have hs := World.cell?_spot h0
  obtain ⟨b, q, s⟩ := a
  cases s with
  | none => exact ⟨b, q, e⟩
  | some x => simp [Addr.add] at hs
theorem rows_get {w : World} {A : Option Addr} {l : List (List Nat)} (h : RdL w 1 RWd A l) {i : Nat} (hi : i < l.length) :
    ∃ b q A1 n1 c1, A = some ⟨b, q, none⟩ ∧ b < w.heap.size ∧ w.cell? ⟨b, q + i, none⟩ = some (.slice A1 n1 c1) ∧ RWd w [.slice A1 n1 c1] l[i] := by
  obtain ⟨a, cs, e, hl, hc, hr⟩ := h i hi
  have hr' := hr
  obtain ⟨A1, n1, c1, rfl, -⟩ := hr'
  obtain ⟨b, q, ha⟩ := spot_none h (by omega)
  rw [e] at ha
  obtain rfl := Option.some.inj ha
  have h0 := hc 0 (by omega)
  have e0 : (⟨b, q, none⟩ : Addr).add (i * 1 + 0) = ⟨b, q + i, none⟩ := by rw [add_none]; simp
  rw [e0] at h0
  exact ⟨b, q, A1, n1, c1, e, World.block_lt_of_cell? _ _ h0, h0, hr⟩

set_option maxRecDepth 100000 in
set_option maxHeartbeats 1000000 in
theorem rSame24_any (A1 A2 : Option Addr) (n1 c1 n2 c2 : Nat) (l1 l2 : List (List Nat)) (w : World) (h1 : RRows w [.slice A1 n1 c1] l1) (h2 : RRows w [.slice A2 n2 c2] l2) :
    Calls Try.prog 29 #[.slice A1 n1 c1, .slice A2 n2 c2] w fun e w' => e = .returned (.bool (decide (l1 = l2))) ∧ Below w.heap.size w w' := by
  obtain ⟨hn1, a1, a2, r1⟩ := rows_at h1
  obtain ⟨hn2, b1, b2, r2⟩ := rows_at h2
  have gm := lw_max a1 a2
  have gm2 := lw_max b1 b2
  clear h1 h2 a1 a2 b1 b2
  by_cases hn : n1 = n2
  rotate_left
  · have t1 : ((n1 : Int) != (n2 : Int)) = true := by rw [bne_iff_ne]; omega
    have t2 : ((n1 : Int) == (n2 : Int)) = false := by rw [beq_eq_false_iff_ne]; omega
    have HF := Lib.hid (show decide (l1 = l2) = false from decide_eq_false fun h => hn (by rw [← hn1, ← hn2, h]))
    rw [HF.out]
    clear r1 r2 hn hn1 hn2
    go_enter Try.func29, Try.ntmps29
    go_wp2
    go_ret
    exact ⟨rfl, Below.refl _ _⟩
  obtain ⟨n, hnn⟩ : ∃ n, n = n1 := ⟨_, rfl⟩
  rw [← hn] at hn2
  subst hn
  subst hnn
  have t1 : ((n : Int) != (n : Int)) = false := by rw [bne_eq_false_iff_eq]
  have t2 : ((n : Int) == (n : Int)) = true := by rw [beq_iff_eq]
  obtain ⟨ans, ha⟩ : ∃ ans, ans = decide (l1 = l2) := ⟨_, rfl⟩
  rw [← ha]
  have HA := Lib.hid ha
  have H1 := Lib.hid hn1
  have H2 := Lib.hid hn2
  clear hn1 hn2 gm2 ha
  go_enter Try.func29, Try.ntmps29
  go_wp2_with fail
  go_loopw [5] (fun y wr => ∃ i : Nat, i ≤ n ∧ y = .int .i64 (i : Int) ∧ Hid (l1.take i = l2.take i) ∧ Below w.heap.size w wr) (fun y _ => n - (intOf y).toNat)
  case atStart => exact ⟨0, Nat.zero_le _, rfl, rfl, Below.refl _ _⟩
  case round =>
    obtain ⟨i, hi, rfl, HT, hbr⟩ := hrel
    by_cases hlt : i < n
    · have g1 : (0 : Int) ≤ (i : Int) := by omega
      have g2 : (i : Int) < (n : Int) := by omega
      have i1 : i < l1.length := by rw [H1.out]; exact hlt
      have i2 : i < l2.length := by rw [H2.out]; exact hlt
      obtain ⟨x1, y1, B1, m1, k1, rfl, v1, d1, s1⟩ := rows_get (r1.below kept_RWd hbr) i1
      obtain ⟨x2, y2, B2, m2, k2, rfl, v2, d2, s2⟩ := rows_get (r2.below kept_RWd hbr) i2
      have HS := Lib.hid (fun w' (hb : Below wr.heap.size wr w') => rSame04_any B1 B2 m1 k1 m2 k2 l1[i] l2[i] w' (kept_RWd _ _ _ _ hb s1) (kept_RWd _ _ _ _ hb s2))
      clear s1 s2
      by_cases he : l1[i] = l2[i]
      · have HT2 := Lib.hid (same_takeL HT.out i1 i2 he)
        have hd : decide (l1[i] = l2[i]) = true := decide_eq_true he
        rw [hd] at HS
        clear he HT hd i1 i2
        go_wp2_with fail
        refine wpGO_begin (Later) (later_moves) [] [] [0, 1, 2, 3, 4, 5, 6, 7, 8, 9] (by kernel_rfl) (by kernel_rfl) ?_
        refine wpGO_start (later_moves) ?_
        intro Wc hacc
        repeat (first | (refine wpGO_skip (later_moves) rfl rfl rfl rfl (fun _ _ _ h => h) ?_ ; simp only [Act.put, List.setIfInBounds_toArray, List.set_cons_zero, List.set_cons_succ]) | (refine wpGO_light (v := ?_) (later_moves) rfl rfl rfl rfl (fun _ _ _ h => h) ?_ ?_ ; rotate_left ; (· (intro w' hR ; (first | have hcells := later_cellsD ((later_moves).trans _ _ _ hacc hR) | skip) ; go_simp ; try with_reducible rfl)) ; simp only [Act.put, List.setIfInBounds_toArray, List.set_cons_zero, List.set_cons_succ]))
        refine wpGO_call (later_moves) rfl rfl rfl rfl (fun _ _ _ h => h) (fun _ => by go_simp <;> rfl) (fun w' hR => HS.out _ (below_chain (Below.refl _ wr).drew (below_chain hacc hR))) ?_
        simp only [Act.put, List.setIfInBounds_toArray, List.set_cons_zero, List.set_cons_succ]
        repeat (first | (refine wpGO_skip (later_moves) rfl rfl rfl rfl (fun _ _ _ h => h) ?_ ; simp only [Act.put, List.setIfInBounds_toArray, List.set_cons_zero, List.set_cons_succ]) | (refine wpGO_light (v := ?_) (later_moves) rfl rfl rfl rfl (fun _ _ _ h => h) ?_ ?_ ; rotate_left ; (· (intro w' hR ; (first | have hcells := later_cellsD ((later_moves).trans _ _ _ hacc hR) | skip) ; go_simp ; try with_reducible rfl)) ; simp only [Act.put, List.setIfInBounds_toArray, List.set_cons_zero, List.set_cons_succ]))
        refine wpGO_done rfl ?_
        intro wd hRd
        replace hacc := (later_moves).trans _ _ _ hacc hRd
        clear hRd
        go_wp2
        replace hbr := below_chain hbr.drew hacc
        go_roundw
        case rel => exact ⟨i + 1, by omega, by go_num, HT2.out, hbr⟩
        case measure => simp [intOf]; omega
      · have HF := Lib.hid (HA.out.trans (decide_eq_false fun h => he (by simp [h])))
        have hd : decide (l1[i] = l2[i]) = false := decide_eq_false he
        rw [hd] at HS
        clear he HT hd i1 i2
        go_wp2_with fail
        refine wpGO_begin (Later) (later_moves) [] [] [0, 1, 2, 3, 4, 5, 6, 7, 8, 9] (by kernel_rfl) (by kernel_rfl) ?_
        refine wpGO_start (later_moves) ?_
        intro Wc hacc
        repeat (first | (refine wpGO_skip (later_moves) rfl rfl rfl rfl (fun _ _ _ h => h) ?_ ; simp only [Act.put, List.setIfInBounds_toArray, List.set_cons_zero, List.set_cons_succ]) | (refine wpGO_light (v := ?_) (later_moves) rfl rfl rfl rfl (fun _ _ _ h => h) ?_ ?_ ; rotate_left ; (· (intro w' hR ; (first | have hcells := later_cellsD ((later_moves).trans _ _ _ hacc hR) | skip) ; go_simp ; try with_reducible rfl)) ; simp only [Act.put, List.setIfInBounds_toArray, List.set_cons_zero, List.set_cons_succ]))
        refine wpGO_call (later_moves) rfl rfl rfl rfl (fun _ _ _ h => h) (fun _ => by go_simp <;> rfl) (fun w' hR => HS.out _ (below_chain (Below.refl _ wr).drew (below_chain hacc hR))) ?_
        simp only [Act.put, List.setIfInBounds_toArray, List.set_cons_zero, List.set_cons_succ]
        repeat (first | (refine wpGO_skip (later_moves) rfl rfl rfl rfl (fun _ _ _ h => h) ?_ ; simp only [Act.put, List.setIfInBounds_toArray, List.set_cons_zero, List.set_cons_succ]) | (refine wpGO_light (v := ?_) (later_moves) rfl rfl rfl rfl (fun _ _ _ h => h) ?_ ?_ ; rotate_left ; (· (intro w' hR ; (first | have hcells := later_cellsD ((later_moves).trans _ _ _ hacc hR) | skip) ; go_simp ; try with_reducible rfl)) ; simp only [Act.put, List.setIfInBounds_toArray, List.set_cons_zero, List.set_cons_succ]))
        refine wpGO_done rfl ?_
        intro wd hRd
        replace hacc := (later_moves).trans _ _ _ hacc hRd
        clear hRd
        go_wp2
        go_ret
        exact ⟨by rw [HF.out]; rfl, below_chain hbr.drew hacc⟩
    · obtain rfl : i = n := by omega
      have HF := Lib.hid (HA.out.trans (decide_eq_true (by have := HT.out; rwa [← H1.out, List.take_length, H1.out, ← H2.out, List.take_length] at this)))
      go_wp2
      go_ret
      exact ⟨by rw [HF.out]; rfl, hbr⟩

end Go.Proofs.Ytefnagiffllhbaa

