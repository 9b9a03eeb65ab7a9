/-
  field Root, transform.root, transform.reduced.
-/
import Derived.Test.YtefnagiffllhbaaJN2
import Derived.Test.YtefnagiffllhbaaJN4
import Derived.Test.YtefnagiffllhbaaJN3
import Derived.Laws.OwnMore

/- RefI -/
namespace Go.Proofs.Ytefnagiffllhbaa
open Go.RowKit

/-- A slice of one-cell elements, from its base. -/
theorem rd_base {w : World} {A : Option Addr} {n : Nat} {xs : List Value} (h : Rd w 1 A n xs) (hn : 0 < n) : ∃ b q, A = some ⟨b, q, none⟩ ∧ b < w.heap.size ∧ ∀ k, k < n → w.cell? ⟨b, q + k, none⟩ = xs[k]? := by
  obtain ⟨ad, rfl, hc⟩ := h.2 hn
  have hl := h.len1
  have h0 := hc 0 _ (List.getElem?_eq_getElem (by omega))
  obtain ⟨b, q, rfl⟩ : ∃ b q, ad = ⟨b, q, none⟩ := by
    have hs := World.cell?_spot h0
    rw [add_zero'] at hs
    obtain ⟨b, q, s⟩ := ad
    simp at hs
    subst hs
    exact ⟨b, q, rfl⟩
  refine ⟨b, q, rfl, World.block_lt_of_cell? _ _ (by rw [add_zero'] at h0; exact h0), fun k hk => ?_⟩
  rw [← add_none, hc k _ (List.getElem?_eq_getElem (by omega)), List.getElem?_eq_getElem (by omega)]

def linStep (p : Nat) (ws : List Nat) (s : Nat) (t : Int × Nat) : Nat := if 0 ≤ t.1 ∧ t.1 < (ws.length : Int) then (s + t.2 * ws.getD t.1.toNat 0 % p) % p else s
def linVal (p : Nat) (l : List (Int × Nat)) (ws : List Nat) : Nat := l.foldl (linStep p ws) 0
theorem linVal_snoc (p : Nat) (l : List (Int × Nat)) (ws : List Nat) (j : Nat) (h : j < l.length) : linVal p (l.take (j + 1)) ws = linStep p ws (linVal p (l.take j) ws) (l.getD j (0, 0)) := by
  unfold linVal
  rw [List.take_succ_eq_append_getElem h, List.foldl_append]
  simp [h]

set_option maxRecDepth 100000 in
set_option maxHeartbeats 4000000 in
theorem rValue_any (p : Nat) (A B : Option Addr) (len c n d : Nat) (l : List (Int × Nat)) (ws : List Nat) (w : World) (hl : RLin w [.slice A len c] l) (hw : RWd w [.slice B n d] ws) (hp : okP p = true) :
    Calls Try.prog 66 #[.int .u64 p, .slice A len c, .slice B n d] w fun e w' => e = .returned (.int .u64 (linVal p l ws : Nat)) ∧ Below w.heap.size w w' := by
  obtain ⟨A', n', c', he, hlen, hnc, hmx, hrd⟩ := hl
  simp at he
  obtain ⟨rfl, rfl, rfl⟩ := he
  subst hlen
  obtain ⟨B', m', d', he, hmd, hmy, hrw, hlw⟩ := hw
  simp at he
  obtain ⟨rfl, rfl, rfl⟩ := he
  have hm : ws.length = n := by have := hrw.len1; rwa [len_U64] at this
  subst hm
  have g0 : (l.length : Int) ≤ 9223372036854775807 := by
    simp [maxLen] at hmx
    omega
  go_enter Try.func66, Try.ntmps66
  go_wp2_with fail
  go_loopw [7, 8] (fun s i wr => ∃ j : Nat, j ≤ l.length ∧ i = .int .i64 (j : Int) ∧ s = .int .u64 (linVal p (l.take j) ws : Nat) ∧ Below w.heap.size w wr)
    (fun _ i _ => l.length - (intOf i).toNat)
  case atStart => exact ⟨0, Nat.zero_le _, rfl, rfl, Below.refl _ _⟩
  case round =>
    obtain ⟨j, hj, rfl, rfl, hb⟩ := hrel
    by_cases hlt : j < l.length
    · have HS := Lib.hid (linVal_snoc p l ws j hlt)
      revert HS
      generalize linVal p (l.take j) ws = s
      intro HS
      obtain ⟨b, q, rfl⟩ := hrd.base (by omega) (by omega)
      have hrd' := hrd.below kept_RTerm hb
      obtain ⟨c1, c2⟩ := RLin.at_ hrd' hlt
      have hbl := World.block_lt_of_cell? _ _ c1
      have HL := Lib.hid hlt
      have g1 : (0 : Int) ≤ (j : Int) := by omega
      have g2 : (j : Int) < (l.length : Int) := by omega
      have HW := Lib.hid (fun (k : Nat) (hk : k < ws.length) => (rd_base (hrw.below hb) (by omega)).imp fun b' h => h.imp fun q' h => (⟨h.1, h.2.1, (h.2.2 k hk).trans (at_U64 hk)⟩ : _ ∧ _ ∧ _ = some (Value.int .u64 (ws[k] : Int))))
      revert c1 c2 HS
      generalize hx : (l.getD j (0, 0)) = t
      obtain ⟨x, y⟩ := t
      clear hx
      simp only
      intro HS c1 c2
      clear hrd hrd' hrw
      by_cases z1 : x < 0
      · have d1 : decide (0 ≤ x) = false := decide_eq_false (by omega)
        have HE := Lib.hid (show linVal p (l.take (j + 1)) ws = s by rw [HS.out, linStep, if_neg (by simp; omega)])
        go_wp2_with fail
        go_roundw
        case rel => exact ⟨j + 1, by omega, by go_num, by rw [HE.out], hb⟩
        case measure => simp [intOf]; omega
      · obtain ⟨k, rfl⟩ := Int.eq_ofNat_of_zero_le (show 0 ≤ x by omega)
        by_cases z2 : k < ws.length
        · have d1 : decide ((0 : Int) ≤ (k : Int)) = true := decide_eq_true (by omega)
          have d2 : decide ((k : Int) < (ws.length : Int)) = true := decide_eq_true (by omega)
          obtain ⟨b', q', rfl, hbl', c3⟩ := HW.out k z2
          have HE := Lib.hid (show linVal p (l.take (j + 1)) ws = (s + y * ws[k] % p) % p by rw [HS.out, linStep, if_pos (by simp; omega)]; show (s + y * ws.getD ((k : Int)).toNat 0 % p) % p = _; rw [Int.toNat_natCast, List.getD_eq_getElem?_getD, List.getElem?_eq_getElem z2, Option.getD_some])
          clear HW HS
          revert c3 HE
          generalize ws[k] = v
          have HM := Lib.hid (fun w => rMul_any p y v w hp)
          revert HM
          generalize y * v % p = m
          intro HM c3 HE
          have i1 : (0 : Int) ≤ (k : Int) := by omega
          have i2 : (k : Int) < (ws.length : Int) := by omega
          go_wp2_with fail
          refine wpO_begin (Later) [16, 17] [0, 1, 2, 3, 4, 5, 6, 7, 8, 9, 10, 11, 12, 13, 14, 15, 16, 17, 18] (by kernel_rfl) (by kernel_rfl) ?_
          refine wpO_start (later_moves) ?_
          intro Wc hacc
          repeat (first | (refine wpO_skip (later_moves) rfl rfl (fun _ _ _ h => h) ?_ ; simp only [Act.put, List.setIfInBounds_toArray, List.set_cons_zero, List.set_cons_succ]) | (refine wpO_light (v := ?_) (later_moves) rfl rfl (fun _ _ _ h => h) ?_ ?_ ; rotate_left ; (· (intro w' hR ; (first | have hcells := later_cellsD ((later_moves).trans _ _ _ hacc hR) | skip) ; go_simp ; try with_reducible rfl)) ; simp only [Act.put, List.setIfInBounds_toArray, List.set_cons_zero, List.set_cons_succ]))
          refine wpO_call (later_moves) rfl rfl rfl (fun _ => by go_simp <;> rfl) ((HM.out _).mono ?_)
          rintro e w2 ⟨rfl, hb2⟩
          refine ⟨_, rfl, hb2, ?_⟩
          replace hacc := (later_moves).trans _ _ _ hacc (hb2)
          simp only [Act.put, List.setIfInBounds_toArray, List.set_cons_zero, List.set_cons_succ]
          repeat (first | (refine wpO_skip (later_moves) rfl rfl (fun _ _ _ h => h) ?_ ; simp only [Act.put, List.setIfInBounds_toArray, List.set_cons_zero, List.set_cons_succ]) | (refine wpO_light (v := ?_) (later_moves) rfl rfl (fun _ _ _ h => h) ?_ ?_ ; rotate_left ; (· (intro w' hR ; (first | have hcells := later_cellsD ((later_moves).trans _ _ _ hacc hR) | skip) ; go_simp ; try with_reducible rfl)) ; simp only [Act.put, List.setIfInBounds_toArray, List.set_cons_zero, List.set_cons_succ]))
          refine wpO_call (later_moves) rfl rfl rfl (fun _ => by go_simp <;> rfl) ((rAdd_any p s m _ hp).mono ?_)
          rintro e w3 ⟨rfl, hb3⟩
          refine ⟨_, rfl, hb3, ?_⟩
          replace hacc := (later_moves).trans _ _ _ hacc (hb3)
          simp only [Act.put, List.setIfInBounds_toArray, List.set_cons_zero, List.set_cons_succ]
          repeat (first | (refine wpO_skip (later_moves) rfl rfl (fun _ _ _ h => h) ?_ ; simp only [Act.put, List.setIfInBounds_toArray, List.set_cons_zero, List.set_cons_succ]) | (refine wpO_light (v := ?_) (later_moves) rfl rfl (fun _ _ _ h => h) ?_ ?_ ; rotate_left ; (· (intro w' hR ; (first | have hcells := later_cellsD ((later_moves).trans _ _ _ hacc hR) | skip) ; go_simp ; try with_reducible rfl)) ; simp only [Act.put, List.setIfInBounds_toArray, List.set_cons_zero, List.set_cons_succ]))
          refine wpO_done ?_
          go_wp2
          go_roundw
          case rel => exact ⟨j + 1, by omega, by go_num, by rw [HE.out]; rfl, below_chain hb.drew hacc⟩
          case measure => simp [intOf]; omega
        · have d1 : decide ((0 : Int) ≤ (k : Int)) = true := decide_eq_true (by omega)
          have d2 : decide ((k : Int) < (ws.length : Int)) = false := decide_eq_false (by omega)
          have HE := Lib.hid (show linVal p (l.take (j + 1)) ws = s by rw [HS.out, linStep, if_neg (by simp; omega)])
          go_wp2_with fail
          go_roundw
          case rel => exact ⟨j + 1, by omega, by go_num, by rw [HE.out], hb⟩
          case measure => simp [intOf]; omega
    · go_wp2
      go_ret
      have e : j = l.length := by omega
      subst e
      exact ⟨by rw [List.take_length]; rfl, hb⟩
/-- Some bool is handed back. -/
def SomeBool (e : Ending) : Prop := ∃ b, e = .returned (.bool b)

def rowOkV (p : Nat) (r : RowR) (ws : List Nat) : Bool := decide (linVal p r.a ws * linVal p r.b ws % p = linVal p r.c ws)

/-- Some number is handed back. -/
def SomeInt (e : Ending) : Prop := ∃ n : Int, e = .returned (.int .i64 n)

theorem tabOk_p {p : Nat} {pub vars : Int} {rows : List RowR} (h : tabOk p pub vars rows = true) : okP p = true := by
  unfold tabOk at h
  simp only [Bool.and_eq_true] at h
  exact h.1.1.1.1.1

end Go.Proofs.Ytefnagiffllhbaa

/- Wd -/
namespace Go.Proofs.Ytefnagiffllhbaa
open Go.RowKit

/-- A word of a list that lies in memory. -/
theorem lw_at {w : World} {A : Option Addr} {n c : Nat} {l : List Nat} (h : RWd w [.slice A n c] l) : n = l.length ∧ n ≤ c ∧ c ≤ maxLen ∧ (∀ x ∈ l, x < 18446744073709551616) ∧ Rd w 1 A n (U64 l) := by
  obtain ⟨A', n', c', he, h1, h2, h3, h4⟩ := h
  simp at he
  obtain ⟨rfl, rfl, rfl⟩ := he
  have := h3.len1
  rw [len_U64] at this
  exact ⟨this.symm, h1, h2, h4, h3⟩
theorem lw_get {w : World} {A : Option Addr} {l : List Nat} (h : Rd w 1 A l.length (U64 l)) {j : Nat} (hj : j < l.length) : ∃ b q, A = some ⟨b, q, none⟩ ∧ b < w.heap.size ∧ w.cell? ⟨b, q + j, none⟩ = some (.int .u64 ((l.getD j 0 : Nat) : Int)) := by
  obtain ⟨b, q, e, hb, hc⟩ := rd_base h (by omega)
  refine ⟨b, q, e, hb, ?_⟩
  rw [hc j hj, at_U64 hj, List.getD_eq_getElem?_getD, List.getElem?_eq_getElem hj]
  rfl
theorem lw_max {n c : Nat} (h1 : n ≤ c) (h2 : c ≤ maxLen) : (n : Int) ≤ 9223372036854775807 := by
  simp [maxLen] at h2
  omega
theorem lw_getD {l : List Nat} {B : Nat} (h : ∀ x ∈ l, x < B) {k : Nat} (hk : k < l.length) : l.getD k 0 < B := by
  rw [List.getD_eq_getElem?_getD, List.getElem?_eq_getElem hk]
  exact h _ (List.getElem_mem _)
theorem lw_snoc (l : List Nat) (k : Nat) (h : k < l.length) : l.take (k + 1) = l.take k ++ [l.getD k 0] := by
  rw [List.take_succ_eq_append_getElem h, List.getD_eq_getElem?_getD, List.getElem?_eq_getElem h]
  rfl
theorem lw_fold {β : Type} (f : β → Nat → β) (b : β) (l : List Nat) (k : Nat) (h : k < l.length) : (l.take (k + 1)).foldl f b = f ((l.take k).foldl f b) (l.getD k 0) := by
  rw [lw_snoc l k h, List.foldl_append]
  rfl
/-- A slice of words that the call owns reads as words. -/
theorem lw_own {w : World} {base : Nat} {e : TypeId} {A : Option Addr} {c n : Nat} {l : List Nat} (h : w.ownsRow base e 1 (.slice A n c) n (U64 l)) (hl : ∀ x ∈ l, x < 18446744073709551616) : RWd w [.slice A n c] l := by
  obtain ⟨A', c', he, h1, h2, h3, -⟩ := own_form h
  simp at he
  obtain ⟨rfl, rfl⟩ := he
  exact ⟨A, n, c, rfl, h1, h2, h3, hl⟩
theorem lw_grow {W W' : World} {B : Nat} {e : TypeId} {size : Nat} {v : Value} {n : Nat} {xs : List Value} (h : W.ownsRow B e size v n xs) (hg : W.grownBy W' v.ownBlock) (hB : B ≤ W.heap.size) : Below B W W' :=
  below_of_grown hg B hB fun g e => (h.lt g e).1
theorem lw_app {w : World} {B m : Nat} {t : TypeId} {v : Value} {a b c : List Nat} (h : w.ownsRow B t 1 v m (U64 a ++ U64 b)) (e : a ++ b = c) : w.ownsRow B t 1 v m (U64 c) := by
  rw [← e, U64_append]
  exact h
/-- A literal of words. -/
theorem lw_lit {w : World} {g : Nat} {t : TypeId} {l : List Nat} (h : Blk w g t (U64 l).toArray) (hl : ∀ x ∈ l, x < 18446744073709551616) (hm : l.length ≤ maxLen) : RWd w [.slice (some ⟨g, 0, none⟩) l.length l.length] l := by
  refine ⟨_, _, _, rfl, Nat.le_refl _, hm, ⟨by rw [len_U64, Nat.mul_one], fun _ => ⟨_, rfl, fun j u hu => ?_⟩⟩, hl⟩
  rw [add_none, Nat.zero_add, h.cell]
  simpa using hu
end Go.Proofs.Ytefnagiffllhbaa

/- SamA -/
namespace Go.Proofs.Ytefnagiffllhbaa
open Go.RowKit

theorem same_take {l1 l2 : List Nat} {k : Nat} (h : l1.take k = l2.take k) (h1 : k < l1.length) (h2 : k < l2.length) (e : l1.getD k 0 = l2.getD k 0) : l1.take (k + 1) = l2.take (k + 1) := by
  rw [lw_snoc l1 k h1, lw_snoc l2 k h2, h, e]
theorem same_not {l1 l2 : List Nat} {k : Nat} (e : l1.getD k 0 ≠ l2.getD k 0) : decide (l1 = l2) = false := decide_eq_false fun h => e (by rw [h])

set_option maxRecDepth 100000 in
set_option maxHeartbeats 1000000 in
theorem rSame04_any (A1 A2 : Option Addr) (n1 c1 n2 c2 : Nat) (l1 l2 : List Nat) (w : World) (h1 : RWd w [.slice A1 n1 c1] l1) (h2 : RWd w [.slice A2 n2 c2] l2) :
    Calls Try.prog 62 #[.slice A1 n1 c1, .slice A2 n2 c2] w fun e w' => e = .returned (.bool (decide (l1 = l2))) ∧ Below w.heap.size w w' := by
  obtain ⟨rfl, a1, a2, a3, r1⟩ := lw_at h1
  obtain ⟨rfl, b1, b2, b3, r2⟩ := lw_at h2
  have gm := lw_max a1 a2
  have gm2 := lw_max b1 b2
  clear h1 h2 a1 a2 b1 b2 a3 b3
  by_cases hn : l1.length = l2.length
  rotate_left
  · have t1 : ((l1.length : Int) != (l2.length : Int)) = true := by rw [bne_iff_ne]; omega
    have t2 : ((l1.length : Int) == (l2.length : Int)) = false := by rw [beq_eq_false_iff_ne]; omega
    have HF := Lib.hid (show decide (l1 = l2) = false from decide_eq_false fun h => hn (by rw [h]))
    rw [HF.out]
    generalize l1.length = m1 at *
    generalize l2.length = m2 at *
    clear r1 r2 hn
    go_enter Try.func62, Try.ntmps62
    go_wp2
    go_ret
    exact ⟨rfl, Below.refl _ _⟩
  have t1 : ((l1.length : Int) != (l2.length : Int)) = false := by rw [bne_eq_false_iff_eq]; omega
  have t2 : ((l1.length : Int) == (l2.length : Int)) = true := by rw [beq_iff_eq]; omega
  obtain ⟨n, hn1⟩ : ∃ n, l1.length = n := ⟨_, rfl⟩
  have hn2 : l2.length = n := by omega
  rw [hn1] at r1
  rw [hn2] at r2
  rw [hn1, hn2] at t1 t2
  rw [hn1] at gm
  rw [hn1, hn2]
  obtain ⟨ans, ha⟩ : ∃ ans, ans = decide (l1 = l2) := ⟨_, rfl⟩
  rw [← ha]
  have HA := Lib.hid ha
  have H1 := Lib.hid hn1
  have H2 := Lib.hid hn2
  clear hn hn1 hn2 gm2 ha
  go_enter Try.func62, Try.ntmps62
  go_wp2_with fail
  go_loopw [5] (fun y wr => ∃ i : Nat, i ≤ n ∧ y = .int .i64 (i : Int) ∧ Hid (l1.take i = l2.take i) ∧ Below w.heap.size w wr) (fun y _ => n - (intOf y).toNat)
  case atStart => exact ⟨0, Nat.zero_le _, rfl, rfl, Below.refl _ _⟩
  case round =>
    obtain ⟨i, hi, rfl, HT, hbr⟩ := hrel
    by_cases hlt : i < n
    · have g1 : (0 : Int) ≤ (i : Int) := by omega
      have g2 : (i : Int) < (n : Int) := by omega
      have q1 := r1.below hbr
      have q2 := r2.below hbr
      rw [← H1.out] at q1
      rw [← H2.out] at q2
      obtain ⟨x1, y1, rfl, v1, d1⟩ := lw_get q1 (j := i) (by rw [H1.out]; exact hlt)
      obtain ⟨x2, y2, rfl, v2, d2⟩ := lw_get q2 (j := i) (by rw [H2.out]; exact hlt)
      clear q1 q2
      by_cases he : l1.getD i 0 = l2.getD i 0
      · have HT2 := Lib.hid (same_take HT.out (by rw [H1.out]; exact hlt) (by rw [H2.out]; exact hlt) he)
        rw [← he] at d2
        generalize l1.getD i 0 = z at *
        have u1 : ((z : Int) != (z : Int)) = false := by rw [bne_eq_false_iff_eq]
        have u2 : ((z : Int) == (z : Int)) = true := by rw [beq_iff_eq]
        clear he HT
        go_wp2_with fail
        refine wpGO_begin (Later) (later_moves) [] [] [0, 1, 2, 3, 4, 5, 6, 7, 8] (by kernel_rfl) (by kernel_rfl) ?_
        refine wpGO_start (later_moves) ?_
        intro Wc hacc
        repeat (first | (refine wpGO_skip (later_moves) rfl rfl rfl rfl (fun _ _ _ h => h) ?_ ; simp only [Act.put, List.setIfInBounds_toArray, List.set_cons_zero, List.set_cons_succ]) | (refine wpGO_light (v := ?_) (later_moves) rfl rfl rfl rfl (fun _ _ _ h => h) ?_ ?_ ; rotate_left ; (· (intro w' hR ; (first | have hcells := later_cellsD ((later_moves).trans _ _ _ hacc hR) | skip) ; go_simp ; try with_reducible rfl)) ; simp only [Act.put, List.setIfInBounds_toArray, List.set_cons_zero, List.set_cons_succ]))
        refine wpGO_done rfl ?_
        intro wd hRd
        replace hacc := (later_moves).trans _ _ _ hacc hRd
        clear hRd
        go_wp2
        replace hbr := below_chain hbr.drew hacc
        go_roundw
        case rel => exact ⟨i + 1, by omega, by go_num, HT2.out, hbr⟩
        case measure => simp [intOf]; omega
      · have HF := Lib.hid (HA.out.trans (same_not he))
        generalize l1.getD i 0 = z1 at *
        generalize l2.getD i 0 = z2 at *
        have u1 : ((z1 : Int) != (z2 : Int)) = true := by rw [bne_iff_ne]; omega
        have u2 : ((z1 : Int) == (z2 : Int)) = false := by rw [beq_eq_false_iff_ne]; omega
        clear he HT
        go_wp2_with fail
        refine wpGO_begin (Later) (later_moves) [] [] [0, 1, 2, 3, 4, 5, 6, 7, 8] (by kernel_rfl) (by kernel_rfl) ?_
        refine wpGO_start (later_moves) ?_
        intro Wc hacc
        repeat (first | (refine wpGO_skip (later_moves) rfl rfl rfl rfl (fun _ _ _ h => h) ?_ ; simp only [Act.put, List.setIfInBounds_toArray, List.set_cons_zero, List.set_cons_succ]) | (refine wpGO_light (v := ?_) (later_moves) rfl rfl rfl rfl (fun _ _ _ h => h) ?_ ?_ ; rotate_left ; (· (intro w' hR ; (first | have hcells := later_cellsD ((later_moves).trans _ _ _ hacc hR) | skip) ; go_simp ; try with_reducible rfl)) ; simp only [Act.put, List.setIfInBounds_toArray, List.set_cons_zero, List.set_cons_succ]))
        refine wpGO_done rfl ?_
        intro wd hRd
        replace hacc := (later_moves).trans _ _ _ hacc hRd
        clear hRd
        go_wp2
        go_ret
        exact ⟨by rw [HF.out]; rfl, below_chain hbr.drew hacc⟩
    · obtain rfl : i = n := by omega
      have HF := Lib.hid (HA.out.trans (decide_eq_true (by have := HT.out; rwa [← H1.out, List.take_length, H1.out, ← H2.out, List.take_length] at this)))
      go_wp2
      go_ret
      exact ⟨by rw [HF.out]; rfl, hbr⟩

set_option maxRecDepth 100000 in
set_option maxHeartbeats 1000000 in
theorem rSame01_any (A1 A2 : Option Addr) (n1 c1 n2 c2 : Nat) (l1 l2 : List Nat) (w : World) (h1 : RWd w [.slice A1 n1 c1] l1) (h2 : RWd w [.slice A2 n2 c2] l2) :
    Calls Try.prog 21 #[.slice A1 n1 c1, .slice A2 n2 c2] w fun e w' => e = .returned (.bool (decide (l1 = l2))) ∧ Below w.heap.size w w' := by
  obtain ⟨rfl, a1, a2, a3, r1⟩ := lw_at h1
  obtain ⟨rfl, b1, b2, b3, r2⟩ := lw_at h2
  have gm := lw_max a1 a2
  have gm2 := lw_max b1 b2
  clear h1 h2 a1 a2 b1 b2 a3 b3
  by_cases hn : l1.length = l2.length
  rotate_left
  · have t1 : ((l1.length : Int) != (l2.length : Int)) = true := by rw [bne_iff_ne]; omega
    have t2 : ((l1.length : Int) == (l2.length : Int)) = false := by rw [beq_eq_false_iff_ne]; omega
    have HF := Lib.hid (show decide (l1 = l2) = false from decide_eq_false fun h => hn (by rw [h]))
    rw [HF.out]
    generalize l1.length = m1 at *
    generalize l2.length = m2 at *
    clear r1 r2 hn
    go_enter Try.func21, Try.ntmps21
    go_wp2
    go_ret
    exact ⟨rfl, Below.refl _ _⟩
  have t1 : ((l1.length : Int) != (l2.length : Int)) = false := by rw [bne_eq_false_iff_eq]; omega
  have t2 : ((l1.length : Int) == (l2.length : Int)) = true := by rw [beq_iff_eq]; omega
  obtain ⟨n, hn1⟩ : ∃ n, l1.length = n := ⟨_, rfl⟩
  have hn2 : l2.length = n := by omega
  rw [hn1] at r1
  rw [hn2] at r2
  rw [hn1, hn2] at t1 t2
  rw [hn1] at gm
  rw [hn1, hn2]
  obtain ⟨ans, ha⟩ : ∃ ans, ans = decide (l1 = l2) := ⟨_, rfl⟩
  rw [← ha]
  have HA := Lib.hid ha
  have H1 := Lib.hid hn1
  have H2 := Lib.hid hn2
  clear hn hn1 hn2 gm2 ha
  go_enter Try.func21, Try.ntmps21
  go_wp2_with fail
  go_loopw [5] (fun y wr => ∃ i : Nat, i ≤ n ∧ y = .int .i64 (i : Int) ∧ Hid (l1.take i = l2.take i) ∧ Below w.heap.size w wr) (fun y _ => n - (intOf y).toNat)
  case atStart => exact ⟨0, Nat.zero_le _, rfl, rfl, Below.refl _ _⟩
  case round =>
    obtain ⟨i, hi, rfl, HT, hbr⟩ := hrel
    by_cases hlt : i < n
    · have g1 : (0 : Int) ≤ (i : Int) := by omega
      have g2 : (i : Int) < (n : Int) := by omega
      have q1 := r1.below hbr
      have q2 := r2.below hbr
      rw [← H1.out] at q1
      rw [← H2.out] at q2
      obtain ⟨x1, y1, rfl, v1, d1⟩ := lw_get q1 (j := i) (by rw [H1.out]; exact hlt)
      obtain ⟨x2, y2, rfl, v2, d2⟩ := lw_get q2 (j := i) (by rw [H2.out]; exact hlt)
      clear q1 q2
      by_cases he : l1.getD i 0 = l2.getD i 0
      · have HT2 := Lib.hid (same_take HT.out (by rw [H1.out]; exact hlt) (by rw [H2.out]; exact hlt) he)
        rw [← he] at d2
        generalize l1.getD i 0 = z at *
        have u1 : ((z : Int) != (z : Int)) = false := by rw [bne_eq_false_iff_eq]
        have u2 : ((z : Int) == (z : Int)) = true := by rw [beq_iff_eq]
        clear he HT
        go_wp2_with fail
        refine wpGO_begin (Later) (later_moves) [] [] [0, 1, 2, 3, 4, 5, 6, 7, 8] (by kernel_rfl) (by kernel_rfl) ?_
        refine wpGO_start (later_moves) ?_
        intro Wc hacc
        repeat (first | (refine wpGO_skip (later_moves) rfl rfl rfl rfl (fun _ _ _ h => h) ?_ ; simp only [Act.put, List.setIfInBounds_toArray, List.set_cons_zero, List.set_cons_succ]) | (refine wpGO_light (v := ?_) (later_moves) rfl rfl rfl rfl (fun _ _ _ h => h) ?_ ?_ ; rotate_left ; (· (intro w' hR ; (first | have hcells := later_cellsD ((later_moves).trans _ _ _ hacc hR) | skip) ; go_simp ; try with_reducible rfl)) ; simp only [Act.put, List.setIfInBounds_toArray, List.set_cons_zero, List.set_cons_succ]))
        refine wpGO_done rfl ?_
        intro wd hRd
        replace hacc := (later_moves).trans _ _ _ hacc hRd
        clear hRd
        go_wp2
        replace hbr := below_chain hbr.drew hacc
        go_roundw
        case rel => exact ⟨i + 1, by omega, by go_num, HT2.out, hbr⟩
        case measure => simp [intOf]; omega
      · have HF := Lib.hid (HA.out.trans (same_not he))
        generalize l1.getD i 0 = z1 at *
        generalize l2.getD i 0 = z2 at *
        have u1 : ((z1 : Int) != (z2 : Int)) = true := by rw [bne_iff_ne]; omega
        have u2 : ((z1 : Int) == (z2 : Int)) = false := by rw [beq_eq_false_iff_ne]; omega
        clear he HT
        go_wp2_with fail
        refine wpGO_begin (Later) (later_moves) [] [] [0, 1, 2, 3, 4, 5, 6, 7, 8] (by kernel_rfl) (by kernel_rfl) ?_
        refine wpGO_start (later_moves) ?_
        intro Wc hacc
        repeat (first | (refine wpGO_skip (later_moves) rfl rfl rfl rfl (fun _ _ _ h => h) ?_ ; simp only [Act.put, List.setIfInBounds_toArray, List.set_cons_zero, List.set_cons_succ]) | (refine wpGO_light (v := ?_) (later_moves) rfl rfl rfl rfl (fun _ _ _ h => h) ?_ ?_ ; rotate_left ; (· (intro w' hR ; (first | have hcells := later_cellsD ((later_moves).trans _ _ _ hacc hR) | skip) ; go_simp ; try with_reducible rfl)) ; simp only [Act.put, List.setIfInBounds_toArray, List.set_cons_zero, List.set_cons_succ]))
        refine wpGO_done rfl ?_
        intro wd hRd
        replace hacc := (later_moves).trans _ _ _ hacc hRd
        clear hRd
        go_wp2
        go_ret
        exact ⟨by rw [HF.out]; rfl, below_chain hbr.drew hacc⟩
    · obtain rfl : i = n := by omega
      have HF := Lib.hid (HA.out.trans (decide_eq_true (by have := HT.out; rwa [← H1.out, List.take_length, H1.out, ← H2.out, List.take_length] at this)))
      go_wp2
      go_ret
      exact ⟨by rw [HF.out]; rfl, hbr⟩

theorem same_takeL {l1 l2 : List (List Nat)} {k : Nat} (h : l1.take k = l2.take k) (h1 : k < l1.length) (h2 : k < l2.length) (e : l1[k] = l2[k]) : l1.take (k + 1) = l2.take (k + 1) := by
  rw [List.take_succ_eq_append_getElem h1, List.take_succ_eq_append_getElem h2, h, e]
/-- A list of rows that lies in memory. -/
def RRows (w : World) (cs : List Value) (l : List (List Nat)) : Prop := RSl 1 RWd w cs l
theorem kept_RRows : Kept RRows := kept_RSl kept_RWd
theorem rows_at {w : World} {A : Option Addr} {n c : Nat} {l : List (List Nat)} (h : RRows w [.slice A n c] l) : l.length = n ∧ n ≤ c ∧ c ≤ maxLen ∧ RdL w 1 RWd A l := by
  obtain ⟨A', n', c', he, h1, h2, h3, h4⟩ := h
  simp at he
  obtain ⟨rfl, rfl, rfl⟩ := he
  exact ⟨h1, h2, h3, h4⟩
theorem spot_none {w : World} {A : Option Addr} {l : List (List Nat)} (h : RdL w 1 RWd A l) (hl : 0 < l.length) : ∃ b q, A = some ⟨b, q, none⟩ := by
  obtain ⟨a, cs, e, h1, hc, -⟩ := h 0 hl
  have h0 := hc 0 (by omega)
  rw [List.getElem?_eq_getElem (by omega)] at h0
  have hs := World.cell?_spot h0
  obtain ⟨b, q, s⟩ := a
  cases s with
  | none => exact ⟨b, q, e⟩
  | some x => simp [Addr.add] at hs
theorem rows_get {w : World} {A : Option Addr} {l : List (List Nat)} (h : RdL w 1 RWd A l) {i : Nat} (hi : i < l.length) :
    ∃ b q A1 n1 c1, A = some ⟨b, q, none⟩ ∧ b < w.heap.size ∧ w.cell? ⟨b, q + i, none⟩ = some (.slice A1 n1 c1) ∧ RWd w [.slice A1 n1 c1] l[i] := by
  obtain ⟨a, cs, e, hl, hc, hr⟩ := h i hi
  have hr' := hr
  obtain ⟨A1, n1, c1, rfl, -⟩ := hr'
  obtain ⟨b, q, ha⟩ := spot_none h (by omega)
  rw [e] at ha
  obtain rfl := Option.some.inj ha
  have h0 := hc 0 (by omega)
  have e0 : (⟨b, q, none⟩ : Addr).add (i * 1 + 0) = ⟨b, q + i, none⟩ := by rw [add_none]; simp
  rw [e0] at h0
  exact ⟨b, q, A1, n1, c1, e, World.block_lt_of_cell? _ _ h0, h0, hr⟩

set_option maxRecDepth 100000 in
set_option maxHeartbeats 1000000 in
theorem rSame24_any (A1 A2 : Option Addr) (n1 c1 n2 c2 : Nat) (l1 l2 : List (List Nat)) (w : World) (h1 : RRows w [.slice A1 n1 c1] l1) (h2 : RRows w [.slice A2 n2 c2] l2) :
    Calls Try.prog 29 #[.slice A1 n1 c1, .slice A2 n2 c2] w fun e w' => e = .returned (.bool (decide (l1 = l2))) ∧ Below w.heap.size w w' := by
  obtain ⟨hn1, a1, a2, r1⟩ := rows_at h1
  obtain ⟨hn2, b1, b2, r2⟩ := rows_at h2
  have gm := lw_max a1 a2
  have gm2 := lw_max b1 b2
  clear h1 h2 a1 a2 b1 b2
  by_cases hn : n1 = n2
  rotate_left
  · have t1 : ((n1 : Int) != (n2 : Int)) = true := by rw [bne_iff_ne]; omega
    have t2 : ((n1 : Int) == (n2 : Int)) = false := by rw [beq_eq_false_iff_ne]; omega
    have HF := Lib.hid (show decide (l1 = l2) = false from decide_eq_false fun h => hn (by rw [← hn1, ← hn2, h]))
    rw [HF.out]
    clear r1 r2 hn hn1 hn2
    go_enter Try.func29, Try.ntmps29
    go_wp2
    go_ret
    exact ⟨rfl, Below.refl _ _⟩
  obtain ⟨n, hnn⟩ : ∃ n, n = n1 := ⟨_, rfl⟩
  rw [← hn] at hn2
  subst hn
  subst hnn
  have t1 : ((n : Int) != (n : Int)) = false := by rw [bne_eq_false_iff_eq]
  have t2 : ((n : Int) == (n : Int)) = true := by rw [beq_iff_eq]
  obtain ⟨ans, ha⟩ : ∃ ans, ans = decide (l1 = l2) := ⟨_, rfl⟩
  rw [← ha]
  have HA := Lib.hid ha
  have H1 := Lib.hid hn1
  have H2 := Lib.hid hn2
  clear hn1 hn2 gm2 ha
  go_enter Try.func29, Try.ntmps29
  go_wp2_with fail
  go_loopw [5] (fun y wr => ∃ i : Nat, i ≤ n ∧ y = .int .i64 (i : Int) ∧ Hid (l1.take i = l2.take i) ∧ Below w.heap.size w wr) (fun y _ => n - (intOf y).toNat)
  case atStart => exact ⟨0, Nat.zero_le _, rfl, rfl, Below.refl _ _⟩
  case round =>
    obtain ⟨i, hi, rfl, HT, hbr⟩ := hrel
    by_cases hlt : i < n
    · have g1 : (0 : Int) ≤ (i : Int) := by omega
      have g2 : (i : Int) < (n : Int) := by omega
      have i1 : i < l1.length := by rw [H1.out]; exact hlt
      have i2 : i < l2.length := by rw [H2.out]; exact hlt
      obtain ⟨x1, y1, B1, m1, k1, rfl, v1, d1, s1⟩ := rows_get (r1.below kept_RWd hbr) i1
      obtain ⟨x2, y2, B2, m2, k2, rfl, v2, d2, s2⟩ := rows_get (r2.below kept_RWd hbr) i2
      have HS := Lib.hid (fun w' (hb : Below wr.heap.size wr w') => rSame04_any B1 B2 m1 k1 m2 k2 l1[i] l2[i] w' (kept_RWd _ _ _ _ hb s1) (kept_RWd _ _ _ _ hb s2))
      clear s1 s2
      by_cases he : l1[i] = l2[i]
      · have HT2 := Lib.hid (same_takeL HT.out i1 i2 he)
        have hd : decide (l1[i] = l2[i]) = true := decide_eq_true he
        rw [hd] at HS
        clear he HT hd i1 i2
        go_wp2_with fail
        refine wpGO_begin (Later) (later_moves) [] [] [0, 1, 2, 3, 4, 5, 6, 7, 8, 9] (by kernel_rfl) (by kernel_rfl) ?_
        refine wpGO_start (later_moves) ?_
        intro Wc hacc
        repeat (first | (refine wpGO_skip (later_moves) rfl rfl rfl rfl (fun _ _ _ h => h) ?_ ; simp only [Act.put, List.setIfInBounds_toArray, List.set_cons_zero, List.set_cons_succ]) | (refine wpGO_light (v := ?_) (later_moves) rfl rfl rfl rfl (fun _ _ _ h => h) ?_ ?_ ; rotate_left ; (· (intro w' hR ; (first | have hcells := later_cellsD ((later_moves).trans _ _ _ hacc hR) | skip) ; go_simp ; try with_reducible rfl)) ; simp only [Act.put, List.setIfInBounds_toArray, List.set_cons_zero, List.set_cons_succ]))
        refine wpGO_call (later_moves) rfl rfl rfl rfl (fun _ _ _ h => h) (fun _ => by go_simp <;> rfl) (fun w' hR => HS.out _ (below_chain (Below.refl _ wr).drew (below_chain hacc hR))) ?_
        simp only [Act.put, List.setIfInBounds_toArray, List.set_cons_zero, List.set_cons_succ]
        repeat (first | (refine wpGO_skip (later_moves) rfl rfl rfl rfl (fun _ _ _ h => h) ?_ ; simp only [Act.put, List.setIfInBounds_toArray, List.set_cons_zero, List.set_cons_succ]) | (refine wpGO_light (v := ?_) (later_moves) rfl rfl rfl rfl (fun _ _ _ h => h) ?_ ?_ ; rotate_left ; (· (intro w' hR ; (first | have hcells := later_cellsD ((later_moves).trans _ _ _ hacc hR) | skip) ; go_simp ; try with_reducible rfl)) ; simp only [Act.put, List.setIfInBounds_toArray, List.set_cons_zero, List.set_cons_succ]))
        refine wpGO_done rfl ?_
        intro wd hRd
        replace hacc := (later_moves).trans _ _ _ hacc hRd
        clear hRd
        go_wp2
        replace hbr := below_chain hbr.drew hacc
        go_roundw
        case rel => exact ⟨i + 1, by omega, by go_num, HT2.out, hbr⟩
        case measure => simp [intOf]; omega
      · have HF := Lib.hid (HA.out.trans (decide_eq_false fun h => he (by simp [h])))
        have hd : decide (l1[i] = l2[i]) = false := decide_eq_false he
        rw [hd] at HS
        clear he HT hd i1 i2
        go_wp2_with fail
        refine wpGO_begin (Later) (later_moves) [] [] [0, 1, 2, 3, 4, 5, 6, 7, 8, 9] (by kernel_rfl) (by kernel_rfl) ?_
        refine wpGO_start (later_moves) ?_
        intro Wc hacc
        repeat (first | (refine wpGO_skip (later_moves) rfl rfl rfl rfl (fun _ _ _ h => h) ?_ ; simp only [Act.put, List.setIfInBounds_toArray, List.set_cons_zero, List.set_cons_succ]) | (refine wpGO_light (v := ?_) (later_moves) rfl rfl rfl rfl (fun _ _ _ h => h) ?_ ?_ ; rotate_left ; (· (intro w' hR ; (first | have hcells := later_cellsD ((later_moves).trans _ _ _ hacc hR) | skip) ; go_simp ; try with_reducible rfl)) ; simp only [Act.put, List.setIfInBounds_toArray, List.set_cons_zero, List.set_cons_succ]))
        refine wpGO_call (later_moves) rfl rfl rfl rfl (fun _ _ _ h => h) (fun _ => by go_simp <;> rfl) (fun w' hR => HS.out _ (below_chain (Below.refl _ wr).drew (below_chain hacc hR))) ?_
        simp only [Act.put, List.setIfInBounds_toArray, List.set_cons_zero, List.set_cons_succ]
        repeat (first | (refine wpGO_skip (later_moves) rfl rfl rfl rfl (fun _ _ _ h => h) ?_ ; simp only [Act.put, List.setIfInBounds_toArray, List.set_cons_zero, List.set_cons_succ]) | (refine wpGO_light (v := ?_) (later_moves) rfl rfl rfl rfl (fun _ _ _ h => h) ?_ ?_ ; rotate_left ; (· (intro w' hR ; (first | have hcells := later_cellsD ((later_moves).trans _ _ _ hacc hR) | skip) ; go_simp ; try with_reducible rfl)) ; simp only [Act.put, List.setIfInBounds_toArray, List.set_cons_zero, List.set_cons_succ]))
        refine wpGO_done rfl ?_
        intro wd hRd
        replace hacc := (later_moves).trans _ _ _ hacc hRd
        clear hRd
        go_wp2
        go_ret
        exact ⟨by rw [HF.out]; rfl, below_chain hbr.drew hacc⟩
    · obtain rfl : i = n := by omega
      have HF := Lib.hid (HA.out.trans (decide_eq_true (by have := HT.out; rwa [← H1.out, List.take_length, H1.out, ← H2.out, List.take_length] at this)))
      go_wp2
      go_ret
      exact ⟨by rw [HF.out]; rfl, hbr⟩

end Go.Proofs.Ytefnagiffllhbaa

/- RowG -/
namespace Go.Proofs.Ytefnagiffllhbaa
open Go.RowKit

/-- v reads as l, in every world that agrees from block N on, apart from block gb. -/
def RWx (N : Nat) (gb : Option Nat) (w : World) (v : Value) (l : List Nat) : Prop := ∀ u : World, (∀ b, N ≤ b → b < w.heap.size → some b ≠ gb → u.heap[b]? = w.heap[b]?) → RWd u [v] l
def GRows (N : Nat) (w : World) (v : Value) (cs : List Value) (l : List (List Nat)) : Prop := cs.length = l.length ∧ ∀ (i : Nat) (h1 : i < cs.length) (h2 : i < l.length), RWx N v.ownBlock w cs[i] l[i]
theorem grows_nil (N : Nat) (w : World) (v : Value) : GRows N w v [] [] := ⟨rfl, fun i h => by simp at h⟩
theorem rwx_keep {N : Nat} {gb : Option Nat} {w w' : World} {v : Value} {l : List Nat} (h : RWx N gb w v l) (hs : w.heap.size ≤ w'.heap.size) (hw : ∀ b, N ≤ b → b < w.heap.size → some b ≠ gb → w'.heap[b]? = w.heap[b]?) : RWx N gb w' v l :=
  fun u hu => h u fun b h1 h2 h3 => (hu b h1 (by omega) h3).trans (hw b h1 h2 h3)
theorem grows_keep {N : Nat} {w w' : World} {v : Value} {cs : List Value} {l : List (List Nat)} (h : GRows N w v cs l) (hs : w.heap.size ≤ w'.heap.size) (hw : ∀ b, N ≤ b → b < w.heap.size → some b ≠ v.ownBlock → w'.heap[b]? = w.heap[b]?) : GRows N w' v cs l :=
  ⟨h.1, fun i h1 h2 => rwx_keep (h.2 i h1 h2) hs hw⟩
theorem grows_below {N : Nat} {w w' : World} {v : Value} {cs : List Value} {l : List (List Nat)} (h : GRows N w v cs l) (hb : Below w.heap.size w w') : GRows N w' v cs l :=
  grows_keep h hb.size fun b _ h2 _ => hb.block b h2
theorem grows_only {N g : Nat} {w w' : World} {v : Value} {cs : List Value} {l : List (List Nat)} (h : GRows N w v cs l) (hg : w.grownBy w' (some g)) (hN : g < N) : GRows N w' v cs l :=
  grows_keep h hg.size fun b h1 h2 _ => hg.block b h2 fun e => by have := Option.some.inj e; omega
theorem rwx_own {N base n : Nat} {w : World} {gb : Option Nat} {e : TypeId} {x : Value} {l : List Nat} (h : w.ownsRow base e 1 x n (U64 l)) (hl : ∀ y ∈ l, y < 18446744073709551616) (hN : N ≤ base) (hg : ∀ q, gb = some q → q < base) : RWx N gb w x l := by
  intro u hu
  have ho := own_agree' h fun b h1 h2 => hu b (by omega) h2 fun e => by have := hg b e.symm; omega
  obtain ⟨A, c, rfl, -⟩ := own_form ho
  exact lw_own ho hl
where
  own_agree' {w u : World} {base : Nat} {e : TypeId} {size : Nat} {v : Value} {n : Nat} {xs : List Value} (h : w.ownsRow base e size v n xs) (ha : ∀ b, base ≤ b → b < w.heap.size → u.heap[b]? = w.heap[b]?) : u.ownsRow base e size v n xs := by
    obtain ⟨h1, h2⟩ := h
    refine ⟨h1, ?_⟩
    rcases h2 with h2 | ⟨g, cap, cur, hv, hgb, hh, r⟩
    · exact Or.inl h2
    · exact Or.inr ⟨g, cap, cur, hv, hgb, by rw [ha g hgb (Array.getElem?_eq_some_iff.1 hh).1]; exact hh, r⟩
theorem grows_app {N : Nat} {w w' : World} {v v' x : Value} {cs : List Value} {l : List (List Nat)} {y : List Nat} (h : GRows N w v cs l) (hx : RWx N v.ownBlock w x y) (hg : w.grownBy w' v.ownBlock) (hv : v'.ownBlock = v.ownBlock ∨ v'.ownBlock = some w.heap.size) : GRows N w' v' (cs ++ [x]) (l ++ [y]) := by
  have key : ∀ {z : Value} {m : List Nat}, RWx N v.ownBlock w z m → RWx N v'.ownBlock w' z m := fun {z m} hz u hu => by
    refine hz u fun b h1 h2 h3 => ?_
    refine (hu b h1 (by have := hg.size; omega) ?_).trans (hg.block b h2 (fun e => h3 e))
    rcases hv with e | e
    · rw [e]; exact h3
    · rw [e]; intro e2; have := Option.some.inj e2; omega
  refine ⟨by simp [h.1], fun i h1 h2 => ?_⟩
  by_cases hi : i < cs.length
  · rw [List.getElem_append_left hi, List.getElem_append_left (by have := h.1; omega)]
    exact key (h.2 i hi _)
  · have e1 : i = cs.length := by simp at h1; omega
    have e2 : (cs ++ [x])[i] = x := by subst e1; simp
    have e3 : (l ++ [y])[i] = y := by
      have : i = l.length := by rw [e1, h.1]
      subst this
      simp
    rw [e2, e3]
    exact key hx
theorem grows_done {N base n : Nat} {w : World} {e : TypeId} {v : Value} {cs : List Value} {l : List (List Nat)} (h : GRows N w v cs l) (ho : w.ownsRow base e 1 v n cs) : RRows w [v] l := by
  obtain ⟨A, c, rfl, h1, h2, hr, -⟩ := own_form ho
  have hn : cs.length = n := by have := ho.1; omega
  refine ⟨A, n, c, rfl, by rw [← h.1, hn], h1, h2, fun i hi => ?_⟩
  have hi2 : i < cs.length := by rw [h.1]; exact hi
  obtain ⟨b, q, hA, hb, hc⟩ := rd_base hr (by omega)
  refine ⟨_, [cs[i]], hA, rfl, fun j hj => ?_, h.2 i hi2 hi w fun _ _ _ _ => rfl⟩
  obtain rfl : j = 0 := by omega
  rw [add_none, show q + (i * 1 + 0) = q + i by omega, hc i (by omega), List.getElem?_eq_getElem hi2]
  rfl
end Go.Proofs.Ytefnagiffllhbaa

/- RowF -/
namespace Go.Proofs.Ytefnagiffllhbaa
open Go.RowKit

/-- The first i cells are rows f 0, f 1, .. -/
def FRows (N : Nat) (gb : Option Nat) (w : World) (cs : Array Value) (i : Nat) (f : Nat → List Nat) : Prop := ∀ k, k < i → ∃ v, cs[k]? = some v ∧ RWx N gb w v (f k)
theorem frows_nil (N : Nat) (gb : Option Nat) (w : World) (cs : Array Value) (f : Nat → List Nat) : FRows N gb w cs 0 f := fun k h => by omega
theorem frows_keep {N : Nat} {gb : Option Nat} {w w' : World} {cs : Array Value} {i : Nat} {f : Nat → List Nat} (h : FRows N gb w cs i f) (hs : w.heap.size ≤ w'.heap.size) (hw : ∀ b, N ≤ b → b < w.heap.size → some b ≠ gb → w'.heap[b]? = w.heap[b]?) : FRows N gb w' cs i f :=
  fun k hk => by
    obtain ⟨v, h1, h2⟩ := h k hk
    exact ⟨v, h1, rwx_keep h2 hs hw⟩
theorem frows_below {N : Nat} {gb : Option Nat} {w w' : World} {cs : Array Value} {i : Nat} {f : Nat → List Nat} (h : FRows N gb w cs i f) (hb : Below w.heap.size w w') : FRows N gb w' cs i f :=
  frows_keep h hb.size fun b _ h2 _ => hb.block b h2
theorem frows_only {N g : Nat} {w w' : World} {cs : Array Value} {i : Nat} {f : Nat → List Nat} (h : FRows N (some g) w cs i f) (hb : w.grownBy w' (some g)) : FRows N (some g) w' cs i f :=
  frows_keep h hb.size fun b _ h2 h3 => hb.block b h2 h3
theorem frows_set {N : Nat} {gb : Option Nat} {w : World} {cs : Array Value} {i : Nat} {f : Nat → List Nat} {v : Value} (h : FRows N gb w cs i f) (hi : i < cs.size) (hv : RWx N gb w v (f i)) : FRows N gb w (cs.setIfInBounds i v) (i + 1) f := fun k hk => by
  by_cases e : i = k
  · subst e
    exact ⟨v, by simp [hi], hv⟩
  · obtain ⟨u, h1, h2⟩ := h k (by omega)
    exact ⟨u, by rw [Array.getElem?_setIfInBounds_ne e]; exact h1, h2⟩
theorem frows_done {N n g : Nat} {gb : Option Nat} {w : World} {t : TypeId} {cs : Array Value} {f : Nat → List Nat} (h : FRows N gb w cs n f) (hk : Blk w g t cs) (hm : n ≤ maxLen) : RRows w [.slice (some ⟨g, 0, none⟩) n n] ((List.range n).map f) := by
  refine ⟨_, n, n, rfl, by simp, Nat.le_refl _, hm, fun i hi => ?_⟩
  have hi2 : i < n := by simpa using hi
  obtain ⟨v, h1, h2⟩ := h i hi2
  refine ⟨_, [v], rfl, rfl, fun j hj => ?_, by simpa using h2 w fun _ _ _ _ => rfl⟩
  obtain rfl : j = 0 := by omega
  rw [add_none, show 0 + (i * 1 + 0) = i by omega, hk.cell, h1]
  rfl
/-- A row in a block of its own. -/
theorem rwx_blk {N g : Nat} {gb : Option Nat} {w : World} {t : TypeId} {l : List Nat} (h : Blk w g t (U64 l).toArray) (hl : ∀ x ∈ l, x < 18446744073709551616) (hm : l.length ≤ maxLen) (hN : N ≤ g) (hg : some g ≠ gb) : RWx N gb w (.slice (some ⟨g, 0, none⟩) l.length l.length) l :=
  fun _ hu => lw_lit (t := t) ((hu g hN h.lt hg).trans h) hl hm
theorem lw_litn {w : World} {g n : Nat} {t : TypeId} {l : List Nat} (h : Blk w g t (U64 l).toArray) (hn : l.length = n) (hl : ∀ x ∈ l, x < 18446744073709551616) (hm : n ≤ maxLen) : RWd w [.slice (some ⟨g, 0, none⟩) n n] l := by
  subst hn
  exact lw_lit h hl hm
theorem rwx_blkn {N g n : Nat} {gb : Option Nat} {w : World} {t : TypeId} {l : List Nat} (h : Blk w g t (U64 l).toArray) (hn : l.length = n) (hl : ∀ x ∈ l, x < 18446744073709551616) (hm : n ≤ maxLen) (hN : N ≤ g) (hg : some g ≠ gb) : RWx N gb w (.slice (some ⟨g, 0, none⟩) n n) l := by
  subst hn
  exact rwx_blk h hl hm hN hg
end Go.Proofs.Ytefnagiffllhbaa

/- Arr -/
namespace Go.Proofs.Ytefnagiffllhbaa
open Go.RowKit

/-- n words, the k-th one f k. -/
def fillC (n : Nat) (f : Nat → Nat) : Array Value := ((List.range n).map fun k => Value.int .u64 (f k : Int)).toArray
def putF (f : Nat → Nat) (k v : Nat) : Nat → Nat := fun i => if i = k then v else f i
theorem fill_get {n k : Nat} (f : Nat → Nat) (h : k < n) : (fillC n f)[k]? = some (.int .u64 (f k : Int)) := by simp [fillC, h]
theorem fill_same {n : Nat} {f g : Nat → Nat} (h : ∀ i, i < n → f i = g i) : fillC n f = fillC n g := by
  unfold fillC
  congr 1
  exact List.map_congr_left fun i hi => by rw [h i (List.mem_range.1 hi)]
theorem fill_set {n : Nat} (f : Nat → Nat) (k v : Nat) : (fillC n f).setIfInBounds k (.int .u64 (v : Int)) = fillC n (putF f k v) := by
  apply Array.ext
  · simp [fillC]
  · intro i h1 h2
    simp [fillC] at h1 h2
    rw [Array.getElem_setIfInBounds (by simpa [fillC] using h1)]
    simp only [fillC, putF]
    split
    · subst_vars; simp
    · rename_i hne
      simp [show ¬ i = k from fun e => hne e.symm]
theorem fill_U64 (n : Nat) (f : Nat → Nat) : fillC n f = (U64 ((List.range n).map f)).toArray := by simp [fillC, U64]
theorem fill_rwd {w : World} {g n : Nat} {t : TypeId} {f : Nat → Nat} (h : Blk w g t (fillC n f)) (hf : ∀ i, i < n → f i < 18446744073709551616) (hn : n ≤ maxLen) : RWd w [.slice (some ⟨g, 0, none⟩) n n] ((List.range n).map f) := by
  rw [fill_U64] at h
  have := lw_lit h (fun x hx => by
    obtain ⟨i, hi, rfl⟩ := List.mem_map.1 hx
    exact hf i (List.mem_range.1 hi)) (by simpa using hn)
  simpa using this
theorem mk_n {P : Program} {t e : TypeId} {size bytes : Nat} {z : Value} (E : Elem P t e size bytes z) (n : Nat) (hb : bytes * n ≤ 281474976710656) (hn : (n : Int) ≤ 9223372036854775807) (w : World) :
    (Instr.makeSlice t (.int .i64 (n : Int)) (.int .i64 (n : Int))).run P w = .ok (.slice (some ⟨w.heap.size, 0, none⟩) n n) (w.alloc (.cells (madeCells z.cells (n * size)) e)) := by
  obtain ⟨ht, ⟨i, hi, hz, hs, hby⟩, hzs, hsz⟩ := E
  have := run_make (P := P) w t e i z ht hi hz .i64 .i64 (n : Int) (n : Int) (by omega) (Int.le_refl _) (by rw [hby, ← Int.natCast_mul]; exact Int.ofNat_le.2 hb) hn
  rw [Int.toNat_natCast, hs] at this
  exact this
theorem made_words (n : Nat) : madeCells (Value.int .u64 0).cells (n * 1) = fillC n fun _ => 0 := by
  apply Array.toList_inj.1
  rw [show (Value.int .u64 0).cells = #[.int .u64 0] from rfl, toList_madeCells_one]
  exact List.ext_getElem (by simp [fillC]) fun i h1 h2 => by simp [fillC]
theorem info_w : (Try.prog.info? 22).map (fun i => (i.zero, i.size, i.bytes)) = some (some (.int .u64 0), 1, 8) := by kernel_rfl
theorem el_w : Elem Try.prog 28 22 1 8 (.int .u64 0) := by
  obtain ⟨i0, hi, hz0, hz1, hz2⟩ := info_parts info_w
  exact ⟨Try.underlying28, ⟨i0, hi, hz0, hz1, hz2⟩, rfl, by omega⟩
theorem mk_words (n : Nat) (hn : n ≤ 1000000) (w : World) :
    (Instr.makeSlice 28 (.int .i64 (n : Int)) (.int .i64 (n : Int))).run Try.prog w = .ok (.slice (some ⟨w.heap.size, 0, none⟩) n n) (w.alloc (.cells (fillC n fun _ => 0) 22)) := by
  have := mk_n (P := Try.prog) el_w n (by omega) (by omega) w
  rw [made_words] at this
  exact this
end Go.Proofs.Ytefnagiffllhbaa

/- TrA -/
namespace Go.Proofs.Ytefnagiffllhbaa
open Go.RowKit

/-- A length of a transform. -/
structure LenOk (p n : Nat) : Prop where
  pos : 1 ≤ n
  le : n ≤ 4096
  two : ∃ j, n = 2 ^ j
  dvd : (p - 1) % n = 0
def rootP (p n : Nat) : Nat := (rowOf p).1 ^ ((p - 1) / n) % p
theorem and_pow : ∀ j : Fin 13, bits .and .i64 ((2 ^ j.val : Nat) : Int) (((2 ^ j.val : Nat) : Int) - 1) = 0 := by decide +kernel
theorem pow_le {j : Nat} (h : 2 ^ j ≤ 4096) : j < 13 := by
  rcases Nat.lt_or_ge j 13 with h1 | h1
  · exact h1
  · have : 2 ^ 13 ≤ 2 ^ j := Nat.pow_le_pow_right (by omega) h1
    omega
theorem pow_of_and : ∀ b : Fin 257, 1 ≤ b.val → b.val &&& (b.val - 1) = 0 → ∃ j : Fin 9, b.val = 2 ^ j.val := by decide +kernel
theorem gen_lt {p : Nat} (h : okP p = true) : (rowOf p).1 < p := by
  rcases okP_cases h with rfl | rfl | rfl | rfl | rfl | rfl | rfl <;> decide

set_option maxRecDepth 100000 in
set_option maxHeartbeats 1000000 in
theorem fRoot_any (p n : Nat) (w : World) (hp : okP p = true) (hn : LenOk p n) :
    Calls Try.prog 102 #[fv p, .int .i64 (n : Int)] w fun e w' => e = .returned (.tuple #[.int .u64 (rootP p n : Int), .bool true]) ∧ Below w.heap.size w w' := by
  obtain ⟨h1, h2, h3, h4⟩ := hn
  obtain ⟨hp1, hp2⟩ := okP_lt hp
  have HV := Lib.hid (fun w => fValid_any p w hp)
  have HG := Lib.hid (fun w => fGen_any p w hp)
  have hand : bits .and .i64 (n : Int) ((n : Int) - 1) = 0 := by
    obtain ⟨j, hj⟩ := h3
    have := and_pow ⟨j, pow_le (by omega)⟩
    simp only at this
    rw [← hj] at this
    exact this
  obtain ⟨pm, hpm⟩ : ∃ pm, pm = p - 1 := ⟨_, rfl⟩
  obtain ⟨m, hm⟩ : ∃ m, m = pm / n := ⟨_, rfl⟩
  have HP := Lib.hid (fun w => fpow_any p (rowOf p).1 m w hp (gen_lt hp) (by rw [hm]; exact Nat.lt_of_le_of_lt (Nat.div_le_self _ _) (by omega)))
  have hR : rootP p n = (rowOf p).1 ^ m % p := by unfold rootP; rw [hm, hpm]
  rw [hR]
  have ep : IntKind.u64.wrap ((p : Int) - 1) = (pm : Int) := by rw [hpm]; exact wr_sub p 1 (by omega) hp2
  have ep2 : (p : Int) - 1 = (pm : Int) := by omega
  have ep3 : IntKind.u64.wrap (pm : Int) = (pm : Int) := wr_nat _ (by omega)
  have en : IntKind.u64.wrap (n : Int) = (n : Int) := wr_nat _ (by omega)
  have em : IntKind.u64.wrap (m : Int) = (m : Int) := wr_nat _ (by rw [hm]; exact Nat.lt_of_le_of_lt (Nat.div_le_self _ _) (by omega))
  have r1 : (pm : Int) % (n : Int) = 0 := by rw [hpm]; omega
  have r2 : (pm : Int).tmod (n : Int) = 0 := by rw [Int.tmod_eq_emod_of_nonneg (by omega)]; exact r1
  have r3 : (pm : Int) / (n : Int) = (m : Int) := by rw [hm]; rfl
  have r4 : (pm : Int).tdiv (n : Int) = (m : Int) := by rw [hm]; rfl
  have n0 : ¬ ((n : Int) = 0) := by omega
  have n5 : ¬ (n = 0) := by omega
  have n1 : (1 : Int) ≤ (n : Int) := by omega
  have n2 : ((n : Int) == 0) = false := by rw [beq_eq_false_iff_ne]; exact n0
  have n3 : (0 : Int) < (n : Int) := by omega
  have n4 : (n : Int) ≤ 4096 := by omega
  clear hR hm hp1 hp2 h1 h2 h3 h4 hp
  generalize (rowOf p).1 = gn at *
  generalize gn ^ m % p = r at *
  unfold fv at *
  have hb0 : Below w.heap.size w (w.alloc (.cells #[.int .u64 (p : Int)] 88)) := (Below.refl _ _).alloc (Nat.le_refl _) _
  have kf := Blk.new w 88 #[.int .u64 (p : Int)]
  clear hpm
  go_enter Try.func102, Try.ntmps102
  go_wp2_with fail
  refine (HV.out _).mono ?_
  rintro e' w1 ⟨rfl, hb1⟩
  replace kf := kf.below hb1 kf.lt
  replace hb0 := below_chain hb0 hb1
  clear hb1
  have cf := kf.cell
  have lf := kf.lt
  go_wp2_with fail
  refine wpGO_begin (Later) (later_moves) [] [] [0, 1, 2, 3, 4, 5, 6, 7, 8, 9, 10, 11] (by kernel_rfl) (by kernel_rfl) ?_
  refine wpGO_start (later_moves) ?_
  intro Wc hacc
  repeat (first | (refine wpGO_skip (later_moves) rfl rfl rfl rfl (fun _ _ _ h => h) ?_ ; simp only [Act.put, List.setIfInBounds_toArray, List.set_cons_zero, List.set_cons_succ]) | (refine wpGO_light (v := ?_) (later_moves) rfl rfl rfl rfl (fun _ _ _ h => h) ?_ ?_ ; rotate_left ; (· (intro w' hR ; (first | have hcells := later_cellsD ((later_moves).trans _ _ _ hacc hR) | skip) ; go_simp ; try with_reducible rfl)) ; simp only [Act.put, List.setIfInBounds_toArray, List.set_cons_zero, List.set_cons_succ]))
  refine wpGO_call (later_moves) rfl rfl rfl rfl (fun _ _ _ h => h) (fun _ => by go_simp <;> rfl) (fun w' hR => HG.out _) ?_
  simp only [Act.put, List.setIfInBounds_toArray, List.set_cons_zero, List.set_cons_succ]
  repeat (first | (refine wpGO_skip (later_moves) rfl rfl rfl rfl (fun _ _ _ h => h) ?_ ; simp only [Act.put, List.setIfInBounds_toArray, List.set_cons_zero, List.set_cons_succ]) | (refine wpGO_light (v := ?_) (later_moves) rfl rfl rfl rfl (fun _ _ _ h => h) ?_ ?_ ; rotate_left ; (· (intro w' hR ; (first | have hcells := later_cellsD ((later_moves).trans _ _ _ hacc hR) | skip) ; go_simp ; try with_reducible rfl)) ; simp only [Act.put, List.setIfInBounds_toArray, List.set_cons_zero, List.set_cons_succ]))
  refine wpGO_call (later_moves) rfl rfl rfl rfl (fun _ _ _ h => h) (fun _ => by go_simp <;> rfl) (fun w' hR => HP.out _) ?_
  simp only [Act.put, List.setIfInBounds_toArray, List.set_cons_zero, List.set_cons_succ]
  repeat (first | (refine wpGO_skip (later_moves) rfl rfl rfl rfl (fun _ _ _ h => h) ?_ ; simp only [Act.put, List.setIfInBounds_toArray, List.set_cons_zero, List.set_cons_succ]) | (refine wpGO_light (v := ?_) (later_moves) rfl rfl rfl rfl (fun _ _ _ h => h) ?_ ?_ ; rotate_left ; (· (intro w' hR ; (first | have hcells := later_cellsD ((later_moves).trans _ _ _ hacc hR) | skip) ; go_simp ; try with_reducible rfl)) ; simp only [Act.put, List.setIfInBounds_toArray, List.set_cons_zero, List.set_cons_succ]))
  refine wpGO_done rfl ?_
  intro wd hRd
  replace hacc := (later_moves).trans _ _ _ hacc hRd
  clear hRd
  go_wp2
  go_ret2
  exact ⟨rfl, below_chain hb0.drew hacc⟩

set_option maxRecDepth 100000 in
set_option maxHeartbeats 1000000 in
theorem tRoot_any (p n : Nat) (w : World) (hp : okP p = true) (hn : LenOk p n) :
    Calls Try.prog 70 #[fv p, .int .i64 (n : Int)] w fun e w' => e = .returned (.tuple #[.int .u64 (rootP p n : Int), .bool true]) ∧ Below w.heap.size w w' := by
  have HR := Lib.hid (fun w => fRoot_any p n w hp hn)
  have d1 : decide ((n : Int) < 1) = false := decide_eq_false (by have := hn.pos; omega)
  have d2 : decide ((4096 : Int) < (n : Int)) = false := decide_eq_false (by have := hn.le; omega)
  clear hn hp
  generalize rootP p n = r at *
  unfold fv at *
  have hb0 : Below w.heap.size w (w.alloc (.cells #[.int .u64 (p : Int)] 88)) := (Below.refl _ _).alloc (Nat.le_refl _) _
  go_enter Try.func70, Try.ntmps70
  go_wp2_with fail
  refine (HR.out _).mono ?_
  rintro e' w1 ⟨rfl, hb1⟩
  go_wp2
  go_ret2
  exact ⟨rfl, below_chain hb0 hb1⟩

/-- The first i cells are F's, the others still G's. -/
def upTo (F G : Nat → Nat) (i : Nat) : Nat → Nat := fun k => if k < i then F k else G k
theorem upTo_zero (n : Nat) (F G : Nat → Nat) : fillC n (upTo F G 0) = fillC n G := fill_same fun k _ => by simp [upTo]
theorem upTo_all (n : Nat) (F G : Nat → Nat) : fillC n (upTo F G n) = fillC n F := fill_same fun k hk => by simp [upTo, hk]
theorem upTo_get {n i : Nat} (F G : Nat → Nat) (h : i < n) : (fillC n (upTo F G i))[i]? = some (.int .u64 (G i : Int)) := by rw [fill_get _ h]; simp [upTo]
theorem upTo_set {n i v : Nat} {F G : Nat → Nat} (h : v = F i) : (fillC n (upTo F G i)).setIfInBounds i (.int .u64 (v : Int)) = fillC n (upTo F G (i + 1)) := by
  rw [fill_set]
  refine fill_same fun k _ => ?_
  simp only [putF, upTo]
  by_cases e : k = i
  · subst e; rw [if_pos rfl, if_pos (by omega), h]
  · rw [if_neg e]
    by_cases h2 : k < i
    · rw [if_pos h2, if_pos (by omega)]
    · rw [if_neg h2, if_neg (by omega)]
/-- A store into block g, of one cell. -/
theorem set_only {w : World} (g i : Nat) (v : Value) : w.grownBy (w.setCell ⟨g, i, none⟩ v) (some g) := grown_setCell' (p := ⟨g, i, none⟩) (grown_refl' w _) (.inl rfl) _

/-- The reduced elements of a list, in a block of its own. -/
def redP (p : Nat) (l : List Nat) (i : Nat) : Nat := l.getD i 0 % p
set_option maxRecDepth 100000 in
set_option maxHeartbeats 1000000 in
theorem tReduced_any (p : Nat) (A : Option Addr) (n c : Nat) (l : List Nat) (w : World) (hp : okP p = true) (hl : RWd w [.slice A n c] l) (hn : n ≤ 100000) :
    Calls Try.prog 71 #[fv p, .slice A n c] w fun e w' => ∃ g, e = .returned (.slice (some ⟨g, 0, none⟩) n n) ∧ w.heap.size ≤ g ∧ Blk w' g 22 (fillC n (redP p l)) ∧ Below w.heap.size w w' := by
  have HR := Lib.hid (fun x w => fReduce_any p x w hp)
  obtain ⟨rfl, h1, h2, hlt, hrd⟩ := lw_at hl
  clear hl
  have hrd := hrd
  unfold fv at *
  have mk := mk_words l.length (by omega)
  have gm : (l.length : Int) ≤ 100000 := by omega
  go_enter Try.func71, Try.ntmps71
  go_wp2_with fail
  obtain ⟨kf, ka, hb0, -⟩ := boxes2 w 88 22 #[.int .u64 (p : Int)] (fillC l.length fun _ => 0)
  have hg1 : w.heap.size < w.heap.size + 1 := by omega
  clear mk
  generalize (w.alloc _).alloc _ = w2 at kf ka hb0 ⊢
  generalize w.heap.size + 1 = ga at ka hg1 ⊢
  rw [← upTo_zero _ (redP p l)] at ka
  go_wp2_with fail
  go_loopw [6, 7, 13] (fun _ _ y wr => ∃ i : Nat, i ≤ l.length ∧ y = .int .i64 (i : Int) ∧ Blk wr w.heap.size 88 #[.int .u64 (p : Int)] ∧ Blk wr ga 22 (fillC l.length (upTo (redP p l) (fun _ => 0) i)) ∧ Below w.heap.size w wr) (fun _ _ y _ => l.length - (intOf y).toNat)
  case atStart => exact ⟨0, Nat.zero_le _, rfl, kf, ka, hb0⟩
  case round =>
    clear kf ka hb0
    obtain ⟨i, hi, rfl, kf, ka, hb0⟩ := hrel
    by_cases hlt' : i < l.length
    · have g1 : (0 : Int) ≤ (i : Int) := by omega
      have g2 : (i : Int) < (l.length : Int) := by omega
      obtain ⟨b, q, rfl, hbl, hc⟩ := lw_get (hrd.below hb0) hlt'
      obtain ⟨x, hx⟩ : ∃ x, x = l.getD i 0 := ⟨_, rfl⟩
      obtain ⟨z, hz⟩ : ∃ z, z = x % p := ⟨_, rfl⟩
      have HZ := Lib.hid (show z = redP p l i by rw [hz, hx]; rfl)
      have HX := Lib.hid (fun w => by have := HR.out x w; rw [← hz] at this; exact this)
      rw [← hx] at hc
      clear hx hz
      have cf := kf.cell
      go_wp2_with fail
      refine (HX.out _).mono ?_
      rintro e w5 ⟨rfl, hb5⟩
      have hba : ga < wr.heap.size := ka.lt
      replace kf := kf.below hb5 kf.lt
      replace ka := ka.below hb5 ka.lt
      replace hb0 := below_chain hb0 hb5
      clear hc cf hb5
      have fa := ka.frozen
      have ca := ka.cell i
      rw [upTo_get _ _ hlt'] at ca
      go_wp2_with fail
      have hg := set_only (w := w5) ga i (.int .u64 (z : Int))
      replace kf := kf.grown hg (fun e => by have := Option.some.inj e; first | omega | (exact absurd this (by assumption)) | (exact absurd this.symm (by assumption)))
      replace hb0 := hb0.trans (below_of_only hg hb0.size (by omega))
      replace ka := ka.set_ i (.int .u64 (z : Int))
      rw [upTo_set HZ.out] at ka
      clear hg fa ca
      go_roundw
      case rel => exact ⟨i + 1, by omega, by go_num, kf, ka, hb0⟩
      case measure => simp [intOf]; omega
    · obtain rfl : i = l.length := by omega
      rw [upTo_all] at ka
      go_wp2
      go_ret
      exact ⟨ga, rfl, by omega, ka, hb0⟩
end Go.Proofs.Ytefnagiffllhbaa
