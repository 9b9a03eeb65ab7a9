/-
  WireIsolated: the walk of the law.
-/
import Derived.Test.YtohddeebmofoeaaWireJ
namespace Go.Proofs.Ytohddeebmofoeaa
open Go.RowKit

theorem valOf_digs : ∀ (k n : Nat), valOf (digs n k) = n % 256 ^ k
  | 0, n => by simp [digs, valOf, Nat.mod_one]
  | k + 1, n => by
    rw [digs, valOf, valOf_digs k, Nat.pow_succ, Nat.mul_comm (256 ^ k) 256, Nat.mod_mul]
theorem digs_bytes : ∀ (k n : Nat), ∀ x ∈ digs n k, x < 256
  | 0, _ => by simp [digs]
  | k + 1, n => by
    intro x hx
    rw [digs] at hx
    rcases List.mem_cons.1 hx with rfl | h
    · exact Nat.mod_lt _ (by omega)
    · exact digs_bytes k _ x h
theorem rdInt_digs (n : Nat) (most : Int) (r : List Nat) (hn : n < 4294967296) (hm : (n : Int) ≤ most) : rdInt most (digs n 4 ++ r) false = (n, r, false) := by
  have e : rdDig 4 (digs n 4 ++ r) false = (n, true, r, false) := by
    have hl : (digs n 4).length = 4 := len_digs 4 n
    rw [rdDig, if_neg (by rw [List.length_append, hl]; simp)]
    rw [List.take_append_of_le_length (by omega), List.take_of_length_le (by omega), List.drop_append_of_le_length (by omega), List.drop_of_length_le (by omega), valOf_digs]
    simp
    omega
  rw [rdInt, e, if_neg (by simp; omega)]
theorem rdBytes_digs (l r : List Nat) (most : Int) (hn : l.length < 4294967296) (hm : (l.length : Int) ≤ most) : rdBytes most (digs l.length 4 ++ (l ++ r)) false = (l, r, false) := by
  rw [rdBytes, rdInt_digs _ _ _ hn hm, if_neg (by simp)]
  simp

theorem own_at {w : World} {base : Nat} {e : TypeId} {A : Option Addr} {n c j : Nat} {l : List Nat} (h : w.ownsRow base e 1 (.slice A n c) n (U8 l)) (hj : j < n) :
    ∃ g y, A = some ⟨g, 0, none⟩ ∧ l[j]? = some y ∧ w.cell? ⟨g, j, none⟩ = some (.int .u8 (y : Int)) ∧ w.frozen? ⟨g, j, none⟩ = false ∧ base ≤ g ∧
      ∀ u : Nat, (w.setCell ⟨g, j, none⟩ (.int .u8 (u : Int))).ownsRow base e 1 (.slice A n c) n (U8 (l.set j u)) ∧ w.grownBy (w.setCell ⟨g, j, none⟩ (.int .u8 (u : Int))) (some g) := by
  have hl : l.length = n := by have := h.1; rw [len_U8] at this; omega
  rcases h.2 with ⟨_, h0⟩ | ⟨g, cap, cur, hv, hb, _⟩
  · omega
  · injection hv with hA _ _
    subst hA
    refine ⟨g, l[j], rfl, List.getElem?_eq_getElem (by omega), ?_, h.frozenAt j, hb, fun u => ?_⟩
    · rw [h.cellAt j (by omega), at_U8 (by omega)]
    · have := h.stored j (.int .u8 (u : Int))
      rw [show (U8 l).set j (.int .u8 (u : Int)) = U8 (l.set j u) from by simp [U8, List.map_set]] at this
      exact this

theorem flip_u8 {y : Nat} (h : y < 256) : bits .xor .u8 (y : Int) 255 = ((y ^^^ 255 : Nat) : Int) := u8_xor_nat y 255 h (by omega)
theorem flip_lt {y : Nat} (h : y < 256) : y ^^^ 255 < 256 := Nat.xor_lt_two_pow (n := 8) h (by omega)
theorem set_bytes {l : List Nat} (h : ∀ x ∈ l, x < 256) (j : Nat) {y : Nat} (hy : y < 256) : ∀ x ∈ l.set j y, x < 256 := by
  intro x hx
  rcases List.mem_or_eq_of_mem_set hx with h1 | h1
  · exact h x h1
  · omega

set_option maxHeartbeats 1000000 in
set_option linter.unusedSimpArgs false in
theorem wireIsolated_in (A C : Option Addr) (n c m d : Nat) (lb lc : List Nat) (w : World) (hr : Rd w 1 A n (U8 lb)) (hlb : ∀ x ∈ lb, x < 256) (hs : Rd w 1 C m (U8 lc)) (hlc : ∀ x ∈ lc, x < 256) (hn : n ≤ 200) (hm : m ≤ 200) :
    Calls Try.prog 5 #[.slice A n c, .slice C m d] w fun e w' => e = .returned (.bool true) ∧ Below w.heap.size w w' := by
  have hd0 : decide ((200 : Int) < (n : Int)) = false := by simp; omega
  have hd1 : decide ((200 : Int) < (m : Int)) = false := by simp; omega
  have e1 := hr.len1
  have e2 := hs.len1
  rw [len_U8] at e1 e2
  have HB1 := Lib.hid (rdBytes_digs lb (digs m 4 ++ (lc ++ [])) 200 (by omega) (by omega))
  have HB2 := Lib.hid (rdBytes_digs lc [] 200 (by omega) (by omega))
  rw [e1, List.append_nil] at HB1
  rw [e2, List.append_nil] at HB2
  have hlw : ∀ x ∈ digs n 4 ++ (lb ++ (digs m 4 ++ lc)), x < 256 := by
    intro x hx
    rcases List.mem_append.1 hx with h | h
    · exact digs_bytes _ _ x h
    · rcases List.mem_append.1 h with h | h
      · exact hlb x h
      · rcases List.mem_append.1 h with h | h
        · exact digs_bytes _ _ x h
        · exact hlc x h
  have HN := Lib.hid e1
  have HM := Lib.hid e2
  clear e1 e2
  go_enter Try.func5, Try.ntmps5
  go_wp2_with fail
  refine (awake_any _).mono ?_
  rintro e w1 ⟨rfl, hb1⟩
  go_wp2_with fail
  refine (wBytes_any none A 0 0 n c [] (U8 lb) w1 (Rd.nil _ _ _) (by simp) (hr.below hb1) (one_U8 _) (by omega)).mono ?_
  rintro e w2 ⟨v2, rfl, hv2, hb2⟩
  rw [List.nil_append, ← U8_append] at hv2
  obtain ⟨A2, c2, rfl, _, _, hr2, _⟩ := own_form hv2
  clear hv2
  go_wp2_with fail
  refine (wBytes_any A2 C (4 + n) c2 m d (U8 (digs n 4 ++ lb)) (U8 lc) w2 (by rw [Nat.zero_add] at hr2; exact hr2) (one_U8 _) ((hs.below hb1).below hb2) (one_U8 _) (by omega)).mono ?_
  rintro e w3 ⟨v3, rfl, hv3, hb3⟩
  rw [← U8_append, ← U8_append, List.append_assoc] at hv3
  obtain ⟨A3, c3, rfl, _, _, hr3, hA3⟩ := own_form hv3
  clear hr2
  go_wp2_with fail
  refine (newReader_any A3 (4 + n + 4 + m) c3 _ w3 hr3 (by omega) hlw).mono ?_
  rintro e w4 ⟨g, bd, rfl, hw4, hg4, hbd, _, hb4⟩
  have hv4 := own_below hv3 hb4 (Nat.le_refl _)
  have hb04 : Below w.heap.size w w4 := below_chain hb1 (below_chain hb2 (below_chain hb3 hb4))
  have hs04 : w1.heap.size ≤ w2.heap.size ∧ w2.heap.size ≤ w3.heap.size ∧ w3.heap.size ≤ w4.heap.size ∧ w.heap.size ≤ w1.heap.size := ⟨hb2.size, hb3.size, hb4.size, hb1.size⟩
  have hA3s : ∀ ad, A3 = some ad → ad.block < w3.heap.size := fun ad e => (hA3 ad e).2
  clear hv3 hr3 hA3 hb1 hb2 hb3 hb4
  have hlw := Lib.hid hlw
  go_wp2_with fail
  refine (rdBytes_any g bd 200 _ false w4 hw4).mono ?_
  rw [HB1.out]
  rintro e w5 ⟨v5, rfl, hv5, hw5, hg5⟩
  have hb05 : Below w.heap.size w w5 := hb04.grown hg5 hb04.size fun k hk => by injection hk with hk; omega
  have hv35 := hv4.kept hg5 (.inr fun e => by
    cases A3 with
    | none => simp [Value.ownBlock] at e
    | some ad => simp [Value.ownBlock] at e; have := hA3s ad rfl; omega)
  obtain ⟨A5, c5, rfl, _, _, hr5, hA5⟩ := own_form hv5
  have q1 := run_str_rd (c := c5) Try.underlying22 Try.underlying5 Try.underlying9 hr5
  have q2 := run_str_rd (c := c) Try.underlying22 Try.underlying5 Try.underlying9 (hr.below hb05)
  clear hw4 hg5 hv4 hb04 hr5
  simp only [HN.out] at hv5 hw5 q1 q2 hA5 ⊢
  go_wp2_with fail
  go_loopw [40] (fun i wr => ∃ (j : Nat) (l1 : List Nat), j ≤ n ∧ i = .int .i64 (j : Int) ∧ (∀ x ∈ l1, x < 256) ∧ wr.ownsRow w4.heap.size 5 1 (.slice A5 n c5) n (U8 l1) ∧ WR wr g bd (digs m 4 ++ lc) false ∧
      wr.ownsRow w2.heap.size 5 1 (.slice A3 (4 + n + 4 + m) c3) (4 + n + 4 + m) (U8 (digs n 4 ++ (lb ++ (digs m 4 ++ lc)))) ∧ Below w.heap.size w wr)
    (fun i _ => n - (intOf i).toNat)
  case atStart => exact ⟨0, lb, Nat.zero_le _, rfl, hlb, hv5, hw5, hv35, hb05⟩
  case round =>
    obtain ⟨j, l1, hj, rfl, hl1, hv, hw, hv3, hb⟩ := hrel
    clear hv5 hw5 hv35 hb05 q1 q2
    by_cases hlt : j < n
    · obtain ⟨g5, y, rfl, hy, k1, k2, hg5b, k3⟩ := own_at hv hlt
      have hyl : y < 256 := hl1 y (List.mem_of_getElem? hy)
      have HF := Lib.hid (flip_u8 hyl)
      obtain ⟨k4, k5⟩ := k3 (y ^^^ 255)
      have hwz := hw.grown k5 fun k hk => by injection hk with hk; subst hk; obtain ⟨_, _, _, _, _, _, _, hA, _⟩ := hw; have := hA.2; exact ⟨by omega, .inl (by omega)⟩
      have hvz := hv3.kept k5 (.inr fun e => by
        cases A3 with
        | none => simp [Value.ownBlock] at e
        | some ad => simp [Value.ownBlock] at e; have := hA3s ad rfl; omega)
      have hbz := hb.grown k5 hb.size fun k hk => by injection hk with hk; omega
      have HV := Lib.hid k4
      have HC := Lib.hid hy
      clear k3 k4 k5 hv hw hv3 hb hy
      rw [← HF.out] at HV hwz hvz hbz
      go_wp2
      go_roundw
      case rel => exact ⟨j + 1, l1.set j (y ^^^ 255), by omega, by go_num, set_bytes hl1 j (flip_lt hyl), HV.out, hwz, hvz, hbz⟩
      case measure => simp [intOf]; omega
    · clear hl1 hv
      go_wp2_with fail
      go_loopw [52] (fun i wr => ∃ (j : Nat) (l1 : List Nat), j ≤ 4 + n + 4 + m ∧ i = .int .i64 (j : Int) ∧ (∀ x ∈ l1, x < 256) ∧ WR wr g bd (digs m 4 ++ lc) false ∧
          wr.ownsRow w2.heap.size 5 1 (.slice A3 (4 + n + 4 + m) c3) (4 + n + 4 + m) (U8 l1) ∧ Below w.heap.size w wr)
        (fun i _ => 4 + n + 4 + m - (intOf i).toNat)
      case atStart => exact ⟨0, _, Nat.zero_le _, rfl, hlw.out, hw, hv3, hb⟩
      case round =>
        obtain ⟨j, l1, hj, rfl, hl1, hwq, hvq, hbq⟩ := hrel
        clear hv3 hb
        by_cases hlt : j < 4 + n + 4 + m
        · obtain ⟨g3, y, rfl, hy, k1, k2, hg3b, k3⟩ := own_at hvq hlt
          have hg3s := hA3s _ rfl
          simp only at hg3s
          have hyl : y < 256 := hl1 y (List.mem_of_getElem? hy)
          have HF := Lib.hid (flip_u8 hyl)
          obtain ⟨k4, k5⟩ := k3 (y ^^^ 255)
          have hwz := hwq.grown k5 fun k hk => by injection hk with hk; subst hk; exact ⟨by omega, .inr (by omega)⟩
          have hbz := hbq.grown k5 hbq.size fun k hk => by injection hk with hk; omega
          have HV := Lib.hid k4
          clear k3 k4 k5 hvq hwq hbq hy
          rw [← HF.out] at HV hwz hbz
          go_wp2
          go_roundw
          case rel => exact ⟨j + 1, l1.set j (y ^^^ 255), by omega, by go_num, set_bytes hl1 j (flip_lt hyl), hwz, HV.out, hbz⟩
          case measure => simp [intOf]; omega
        · go_wp2_with fail
          have hgw : w.heap.size ≤ g := by omega
          have hbd0 := hbq.drew
          clear hvq hw
          refine wpR_begin (Only g) (by kernel_rfl) ?_
          refine wpR_take 0 (v := ?_) (only_moves g) (by decide) (by kernel_rfl) (by kernel_rfl) (by kernel_rfl) (fun _ _ _ h => h) (wantedT (by rfl) ?_) ?_ ; rotate_left ; · ( intro w' hR ; simp only [List.getElem_cons_succ, List.getElem_cons_zero] ; go_simp ; try with_reducible rfl )
          simp only [Act.put, List.getElem_cons_succ, List.getElem_cons_zero, List.setIfInBounds_toArray, List.set_cons_zero, List.set_cons_succ]
          refine wpR_take 3 (v := ?_) (only_moves g) (by decide) (by kernel_rfl) (by kernel_rfl) (by kernel_rfl) (fun _ _ _ h => h) (wantedT (by rfl) ?_) ?_ ; rotate_left ; · ( intro w' hR ; simp only [List.getElem_cons_succ, List.getElem_cons_zero] ; go_simp ; try with_reducible rfl )
          simp only [Act.put, List.getElem_cons_succ, List.getElem_cons_zero, List.setIfInBounds_toArray, List.set_cons_zero, List.set_cons_succ]
          refine wpR_take 4 (only_moves g) (by decide) (by kernel_rfl) (by kernel_rfl) (by kernel_rfl) (fun _ _ _ h => h) (wantedT (by rfl) (fun w' hR => conv_op (e := 5) Try.underlying22 Try.underlying5 Try.underlying9 rfl rfl (hs.below (hbd0.grown hR hbd0.size fun k hk => by injection hk with hk; omega)))) ?_
          simp only [Act.put, List.getElem_cons_succ, List.getElem_cons_zero, List.setIfInBounds_toArray, List.set_cons_zero, List.set_cons_succ]
          refine wpR_call 1 (only_moves g) (by decide) (by kernel_rfl) (by rfl) ((rdBytes_any g bd 200 (digs m 4 ++ lc) false _ hwq.drew).mono ?_) (fun _ => by simp only [List.getElem_cons_succ, List.getElem_cons_zero] ; go_simp)
          rintro e w7 ⟨v7, rfl, hv7, hw7, hg7⟩
          rw [HB2.out] at hv7 hw7
          simp only [HM.out] at hv7 hw7
          have hgz : g < wr.heap.size := hwq.lt
          obtain ⟨A7, c7, rfl, _, _, hr7, hA7⟩ := own_form hv7
          have hn7 : ∀ ad, A7 = some ad → some ad.block ≠ some g := fun ad e h => by injection h with h; have h7 : wr.heap.size ≤ ad.block := (hA7 ad e).1; omega
          refine ⟨_, rfl, hg7, ?_⟩
          simp only [Act.put, List.getElem_cons_succ, List.getElem_cons_zero, List.setIfInBounds_toArray, List.set_cons_zero, List.set_cons_succ]
          refine wpR_take 2 (only_moves g) (by decide) (by kernel_rfl) (by kernel_rfl) (by kernel_rfl) (fun _ _ _ h => h) (wantedT (by rfl) (fun w' hR => conv_op (e := 5) Try.underlying22 Try.underlying5 Try.underlying9 rfl rfl (hr7.grown hR hn7))) ?_
          simp only [Act.put, List.getElem_cons_succ, List.getElem_cons_zero, List.setIfInBounds_toArray, List.set_cons_zero, List.set_cons_succ]
          refine wpR_take 5 (v := ?_) (only_moves g) (by decide) (by kernel_rfl) (by kernel_rfl) (by kernel_rfl) (fun _ _ _ h => h) (wantedT (by rfl) ?_) ?_ ; rotate_left ; · ( intro w' hR ; simp only [List.getElem_cons_succ, List.getElem_cons_zero] ; go_simp ; try with_reducible rfl )
          simp only [Act.put, List.getElem_cons_succ, List.getElem_cons_zero, List.setIfInBounds_toArray, List.set_cons_zero, List.set_cons_succ]
          refine wpR_take 6 (v := ?_) (only_moves g) (by decide) (by kernel_rfl) (by kernel_rfl) (by kernel_rfl) (fun _ _ _ h => h) (wantedT (by rfl) ?_) ?_ ; rotate_left ; · ( intro w' hR ; simp only [List.getElem_cons_succ, List.getElem_cons_zero] ; go_simp ; try with_reducible rfl )
          simp only [Act.put, List.getElem_cons_succ, List.getElem_cons_zero, List.setIfInBounds_toArray, List.set_cons_zero, List.set_cons_succ]
          refine wpR_take 7 (v := ?_) (only_moves g) (by decide) (by kernel_rfl) (by kernel_rfl) (by kernel_rfl) (fun _ _ _ h => h) (wantedT (by rfl) ?_) ?_ ; rotate_left ; · ( intro w' hR ; simp only [List.getElem_cons_succ, List.getElem_cons_zero] ; go_simp ; try with_reducible rfl )
          simp only [Act.put, List.getElem_cons_succ, List.getElem_cons_zero, List.setIfInBounds_toArray, List.set_cons_zero, List.set_cons_succ]
          refine wpR_call 8 (only_moves g) (by decide) (by kernel_rfl) (by rfl) ((done_any g bd [] false _ hw7).mono ?_) (fun _ => by simp only [List.getElem_cons_succ, List.getElem_cons_zero] ; go_simp)
          rintro e w8 ⟨rfl, kk, rfl⟩
          refine ⟨_, rfl, grown_drewN' (grown_refl' _ _) _, ?_⟩
          simp only [Act.put, List.getElem_cons_succ, List.getElem_cons_zero, List.setIfInBounds_toArray, List.set_cons_zero, List.set_cons_succ]
          refine wpR_take 9 (v := ?_) (only_moves g) (by decide) (by kernel_rfl) (by kernel_rfl) (by kernel_rfl) (fun _ _ _ h => h) (wantedT (by rfl) ?_) ?_ ; rotate_left ; · ( intro w' hR ; simp only [List.getElem_cons_succ, List.getElem_cons_zero] ; go_simp ; try with_reducible rfl )
          simp only [Act.put, List.getElem_cons_succ, List.getElem_cons_zero, List.setIfInBounds_toArray, List.set_cons_zero, List.set_cons_succ]
          refine wpR_take 10 (v := ?_) (only_moves g) (by decide) (by kernel_rfl) (by kernel_rfl) (by kernel_rfl) (fun _ _ _ h => h) (wantedT (by rfl) ?_) ?_ ; rotate_left ; · ( intro w' hR ; simp only [List.getElem_cons_succ, List.getElem_cons_zero] ; go_simp ; try with_reducible rfl )
          simp only [Act.put, List.getElem_cons_succ, List.getElem_cons_zero, List.setIfInBounds_toArray, List.set_cons_zero, List.set_cons_succ]
          refine wpR_done (by kernel_rfl) ?_
          clear hv7 hr7 hs hr
          go_wp2
          go_ret
          exact ⟨by simp, below_drewN' (hbd0.grown hg7 hbd0.size fun k hk => by injection hk with hk; omega) kk⟩

theorem wireIsolated_walk (W : World) (A : Option Addr) (n c : Nat) (f : Fits Try.prog W 22 (Value.slice A n c).cells.toList) (C : Option Addr) (m d : Nat) (f1 : Fits Try.prog W 22 (Value.slice C m d).cells.toList) :
    Calls Try.prog 5 #[.slice A n c, .slice C m d] W fun e W' => e = .returned (.bool true) ∧ Below W.heap.size W W' := by
  obtain ⟨l, h1, h2, h3, h4⟩ := arg_bytes f
  obtain ⟨ll, h5, h6, h7, h8⟩ := arg_bytes f1
  by_cases h : 200 < n ∨ 200 < m
  · exact wireIsolated_out A C n c m d W h (by omega) (by omega)
  · exact wireIsolated_in A C n c m d l ll W h3 h4 h7 h8 (by omega) (by omega)
end Go.Proofs.Ytohddeebmofoeaa
