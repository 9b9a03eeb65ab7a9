/-
  The document's transform: ref04.Length, Domain, Eval, Evaluate.
-/
import Derived.Test.YtefnagiffllhbaaGreatJM5
import Derived.Test.YtefnagiffllhbaaGreatJM11
import Derived.Test.YtefnagiffllhbaaGreatJM18
import Derived.Test.YtefnagiffllhbaaGreatJM13
import Derived.Test.YtefnagiffllhbaaGreatJM7
import Derived.Laws.OwnMore
import Derived.Deep.AppendLies

/- RoA -/
namespace Go.Proofs.YtefnagiffllhbaaGreat
open Go.RowKit

set_option maxRecDepth 100000 in
set_option maxHeartbeats 1000000 in
theorem rReduce_any (p a : Nat) (w : World) (hp : okP p = true) :
    Calls Tryz.prog 124 #[.int .u64 p, .int .u64 a] w fun e w' => e = .returned (.int .u64 ((a % p : Nat) : Int)) ∧ Below w.heap.size w w' := by
  obtain ⟨hp1, hp2⟩ := okP_lt hp
  have HO := Lib.hid (fun w => by have := rValidP_any p w hp2; rw [hp] at this; exact this)
  have p1 : (0 : Int) < (p : Int) := by omega
  have p3 : ¬ (p = 0) := by omega
  have e1 : (a : Int) % (p : Int) = ((a % p : Nat) : Int) := rfl
  have e2 : (a : Int).tmod (p : Int) = ((a % p : Nat) : Int) := rfl
  clear hp hp1 hp2
  generalize a % p = r at *
  go_enter Tryz.func124, Tryz.ntmps124
  go_wp2_with fail
  refine (HO.out _).mono ?_
  rintro e w1 ⟨rfl, hb0⟩
  go_wp2
  go_ret
  exact ⟨rfl, hb0⟩

set_option maxRecDepth 100000 in
set_option maxHeartbeats 1000000 in
theorem rNeg_any (p a : Nat) (w : World) (hp : okP p = true) :
    Calls Tryz.prog 99 #[.int .u64 p, .int .u64 a] w fun e w' => e = .returned (.int .u64 (negP p a : Int)) ∧ Below w.heap.size w w' := by
  obtain ⟨hp1, hp2⟩ := okP_lt hp
  have HA := Lib.hid (fun w => rReduce_any p a w hp)
  have hx : a % p < p := Nat.mod_lt _ (by omega)
  have HN := Lib.hid (show negP p a = if a % p = 0 then 0 else p - a % p from rfl)
  clear hp
  generalize negP p a = r at *
  generalize a % p = x at *
  by_cases h0 : x = 0
  · have HR := Lib.hid (show r = 0 by rw [HN.out, if_pos h0])
    subst h0
    go_enter Tryz.func99, Tryz.ntmps99
    go_wp2_with fail
    refine (HA.out _).mono ?_
    rintro e' w1 ⟨rfl, hb1⟩
    go_wp2
    go_ret
    exact ⟨by rw [HR.out]; rfl, hb1⟩
  · have HR := Lib.hid (show r = p - x by rw [HN.out, if_neg h0])
    have d1 : ((x : Int) == 0) = false := by rw [beq_eq_false_iff_ne]; omega
    have e1 : IntKind.u64.wrap ((p : Int) - (x : Int)) = ((p - x : Nat) : Int) := wr_sub p x (by omega) hp2
    rw [HR.out]
    clear hx hp1 hp2 h0 HR HN
    generalize p - x = z at *
    go_enter Tryz.func99, Tryz.ntmps99
    go_wp2_with fail
    refine (HA.out _).mono ?_
    rintro e' w1 ⟨rfl, hb1⟩
    go_wp2
    go_ret
    exact ⟨rfl, hb1⟩

set_option maxRecDepth 100000 in
set_option maxHeartbeats 1000000 in
theorem rSub_any (p a b : Nat) (w : World) (hp : okP p = true) :
    Calls Tryz.prog 50 #[.int .u64 p, .int .u64 a, .int .u64 b] w fun e w' => e = .returned (.int .u64 (((a + negP p b) % p : Nat) : Int)) ∧ Below w.heap.size w w' := by
  have HN := Lib.hid (fun w => rNeg_any p b w hp)
  have HS := Lib.hid (fun w => rAdd_any p a (negP p b) w hp)
  clear hp
  generalize (a + negP p b) % p = r at *
  generalize negP p b = x at *
  go_enter Tryz.func50, Tryz.ntmps50
  go_wp2_with fail
  refine (HN.out _).mono ?_
  rintro e' w1 ⟨rfl, hb1⟩
  go_wp2_with fail
  refine (HS.out _).mono ?_
  rintro e' w2 ⟨rfl, hb2⟩
  go_wp2
  go_ret
  exact ⟨rfl, below_on hb1 hb2 hb1.size⟩

set_option maxRecDepth 100000 in
set_option maxHeartbeats 1000000 in
theorem rInv_any (p a : Nat) (w : World) (hp : okP p = true) :
    Calls Tryz.prog 67 #[.int .u64 p, .int .u64 a] w fun e w' => e = .returned (.int .u64 ((a ^ (p - 2) % p : Nat) : Int)) ∧ Below w.heap.size w w' := by
  obtain ⟨hp1, hp2⟩ := okP_lt hp
  have HO := Lib.hid (fun w => by have := rValidP_any p w hp2; rw [hp] at this; exact this)
  have HS := Lib.hid (fun w => rPow_any p a (p - 2) w hp (by omega))
  have e1 : IntKind.u64.wrap ((p : Int) - 2) = ((p - 2 : Nat) : Int) := wr_sub p 2 (by omega) hp2
  clear hp hp1 hp2
  generalize a ^ (p - 2) % p = r at *
  generalize p - 2 = m at *
  go_enter Tryz.func67, Tryz.ntmps67
  go_wp2_with fail
  refine (HO.out _).mono ?_
  rintro e w1 ⟨rfl, hb1⟩
  go_wp2_with fail
  refine (HS.out _).mono ?_
  rintro e' w2 ⟨rfl, hb2⟩
  go_wp2
  go_ret
  exact ⟨rfl, below_on hb1 hb2 hb1.size⟩

set_option maxRecDepth 100000 in
set_option maxHeartbeats 1000000 in
theorem rRoot_any (p n : Nat) (w : World) (hp : okP p = true) (hn : LenOk p n) :
    Calls Tryz.prog 94 #[.int .u64 p, .int .i64 (n : Int)] w fun e w' => e = .returned (.tuple #[.int .u64 (rootP p n : Int), .bool true]) ∧ Below w.heap.size w w' := by
  obtain ⟨h1, h2, ⟨j, hj⟩, h4⟩ := hn
  obtain ⟨hp1, hp2⟩ := okP_lt hp
  have HV := Lib.hid (fun w => by have := rValidP_any p w hp2; rw [hp] at this; exact this)
  have HG := Lib.hid (fun w => rGen_any p w hp)
  obtain ⟨pm, hpm⟩ : ∃ pm, pm = p - 1 := ⟨_, rfl⟩
  obtain ⟨m, hm⟩ : ∃ m, m = pm / n := ⟨_, rfl⟩
  have HP := Lib.hid (fun w => rPow_any p (rowOf p).1 m w hp (by rw [hm]; exact Nat.lt_of_le_of_lt (Nat.div_le_self _ _) (by omega)))
  have hR : rootP p n = (rowOf p).1 ^ m % p := by unfold rootP; rw [hm, hpm]
  rw [hR]
  have ep : IntKind.u64.wrap ((p : Int) - 1) = (pm : Int) := by rw [hpm]; exact wr_sub p 1 (by omega) hp2
  have en : IntKind.u64.wrap (n : Int) = (n : Int) := wr_nat _ (by omega)
  have em : IntKind.u64.wrap (m : Int) = (m : Int) := wr_nat _ (by rw [hm]; exact Nat.lt_of_le_of_lt (Nat.div_le_self _ _) (by omega))
  have r1 : (pm : Int) % (n : Int) = 0 := by rw [hpm]; omega
  have r2 : (pm : Int).tmod (n : Int) = 0 := by rw [Int.tmod_eq_emod_of_nonneg (by omega)]; exact r1
  have r3 : (pm : Int) / (n : Int) = (m : Int) := by rw [hm]; rfl
  have r4 : (pm : Int).tdiv (n : Int) = (m : Int) := by rw [hm]; rfl
  have n0 : ¬ ((n : Int) = 0) := by omega
  have n5 : ¬ (n = 0) := by omega
  have n1 : (1 : Int) ≤ (n : Int) := by omega
  have n2 : ((n : Int) == 0) = false := by rw [beq_eq_false_iff_ne]; exact n0
  have n4 : (n : Int) ≤ 4096 := by omega
  have HJ := Lib.hid hj
  clear hR hm hp1 hp2 h1 h2 hj h4 hp hpm
  generalize (rowOf p).1 = gn at *
  generalize gn ^ m % p = r at *
  go_enter Tryz.func94, Tryz.ntmps94
  go_wp2_with fail
  refine (HV.out _).mono ?_
  rintro e' w1 ⟨rfl, hb1⟩
  go_wp2_with fail
  go_loopw [6] (fun x wr => ∃ i k : Nat, x = .int .i64 (k : Int) ∧ Hid (k = 2 ^ i) ∧ 1 ≤ k ∧ k ≤ 4096 ∧ Below w.heap.size w wr) (fun x _ => (intOf x).toNat)
  case atStart => exact ⟨j, n, rfl, HJ, by omega, by omega, hb1⟩
  case round =>
    clear hb1
    obtain ⟨i, k, rfl, HK, hk1, hk2, hb⟩ := hrel
    by_cases hi : k = 1
    · subst hi
      go_upto_region 8 with fail
      refine wpGO_begin (Later) (later_moves) [] [] [0, 1, 2, 3, 4, 5, 6, 7, 8, 9, 10] (by kernel_rfl) (by kernel_rfl) ?_
      refine wpGO_start (later_moves) ?_
      intro Wc hacc
      repeat (first | (refine wpGO_skip (later_moves) rfl rfl rfl rfl (fun _ _ _ h => h) ?_ ; simp only [Act.put, List.setIfInBounds_toArray, List.set_cons_zero, List.set_cons_succ]) | (refine wpGO_light (v := ?_) (later_moves) rfl rfl rfl rfl (fun _ _ _ h => h) ?_ ?_ ; rotate_left ; (· (intro w' hR ; (first | have hcells := later_cellsD ((later_moves).trans _ _ _ hacc hR) | skip) ; go_simp ; try with_reducible rfl)) ; simp only [Act.put, List.setIfInBounds_toArray, List.set_cons_zero, List.set_cons_succ]))
      refine wpGO_call (later_moves) rfl rfl rfl rfl (fun _ _ _ h => h) (fun _ => by go_simp <;> rfl) (fun w' hR => HG.out _) ?_
      simp only [Act.put, List.setIfInBounds_toArray, List.set_cons_zero, List.set_cons_succ]
      repeat (first | (refine wpGO_skip (later_moves) rfl rfl rfl rfl (fun _ _ _ h => h) ?_ ; simp only [Act.put, List.setIfInBounds_toArray, List.set_cons_zero, List.set_cons_succ]) | (refine wpGO_light (v := ?_) (later_moves) rfl rfl rfl rfl (fun _ _ _ h => h) ?_ ?_ ; rotate_left ; (· (intro w' hR ; (first | have hcells := later_cellsD ((later_moves).trans _ _ _ hacc hR) | skip) ; go_simp ; try with_reducible rfl)) ; simp only [Act.put, List.setIfInBounds_toArray, List.set_cons_zero, List.set_cons_succ]))
      refine wpGO_call (later_moves) rfl rfl rfl rfl (fun _ _ _ h => h) (fun _ => by go_simp <;> rfl) (fun w' hR => HP.out _) ?_
      simp only [Act.put, List.setIfInBounds_toArray, List.set_cons_zero, List.set_cons_succ]
      repeat (first | (refine wpGO_skip (later_moves) rfl rfl rfl rfl (fun _ _ _ h => h) ?_ ; simp only [Act.put, List.setIfInBounds_toArray, List.set_cons_zero, List.set_cons_succ]) | (refine wpGO_light (v := ?_) (later_moves) rfl rfl rfl rfl (fun _ _ _ h => h) ?_ ?_ ; rotate_left ; (· (intro w' hR ; (first | have hcells := later_cellsD ((later_moves).trans _ _ _ hacc hR) | skip) ; go_simp ; try with_reducible rfl)) ; simp only [Act.put, List.setIfInBounds_toArray, List.set_cons_zero, List.set_cons_succ]))
      refine wpGO_done rfl ?_
      intro wd hRd
      replace hacc := (later_moves).trans _ _ _ hacc hRd
      clear hRd
      go_wp2
      go_ret2
      exact ⟨rfl, below_chain hb.drew hacc⟩
    · obtain ⟨f, hf⟩ : ∃ f, f = k / 2 := ⟨_, rfl⟩
      have hk0 : k % 2 = 0 := by
        have := HK.out
        cases i with
        | zero => omega
        | succ i => rw [this, Nat.pow_succ]; omega
      have HF : Hid (f = 2 ^ (i - 1)) := by
        have := HK.out
        cases i with
        | zero => omega
        | succ i => exact Lib.hid (by rw [hf, this, Nat.pow_succ, Nat.add_sub_cancel]; omega)
      have e1 : (k : Int) / 2 = (f : Int) := by omega
      have e2 : (k : Int).tdiv 2 = (f : Int) := by rw [Int.tdiv_eq_ediv_of_nonneg (by omega)]; exact e1
      have e3 : (k : Int) % 2 = 0 := by omega
      have e4 : (k : Int).tmod 2 = 0 := by rw [Int.tmod_eq_emod_of_nonneg (by omega)]; exact e3
      have hf1 : 1 ≤ f := by omega
      have hf2 : f < k := by omega
      clear hf hk0
      go_wp2
      go_roundw
      case rel => exact ⟨i - 1, f, rfl, HF, hf1, by omega, hb⟩
      case measure => simp [intOf]; omega
end Go.Proofs.YtefnagiffllhbaaGreat

/- PoB -/
namespace Go.Proofs.YtefnagiffllhbaaGreat
open Go.RowKit

theorem rd_less {w : World} {A : Option Addr} {n k : Nat} {l : List Nat} (h : Rd w 1 A n (U64 l)) (hk : k ≤ n) : Rd w 1 A k (U64 (l.take k)) := by
  have hl : (U64 l).length = n * 1 := h.1
  refine ⟨by rw [len_U64] at hl ⊢; simp; omega, fun h0 => ?_⟩
  obtain ⟨ad, e, hc⟩ := h.2 (by omega)
  refine ⟨ad, e, fun j u hj => hc j u ?_⟩
  have : U64 (l.take k) = (U64 l).take k := by simp [U64, List.map_take]
  rw [this, List.getElem?_take] at hj
  split at hj
  · exact hj
  · cases hj
theorem trimZ_step {L : List Nat} {j : Nat} (hj : j < L.length) (h0 : L.getD j 0 = 0) : trimZ (L.take (j + 1)) = trimZ (L.take j) := by
  rw [lw_snoc L j hj, h0, trimZ_snoc0]
theorem trimZ_stop {L : List Nat} {j : Nat} (hj : j < L.length) (h0 : L.getD j 0 ≠ 0) : trimZ (L.take (j + 1)) = L.take (j + 1) := by
  rw [lw_snoc L j hj, trimZ_snoc h0]
theorem map_snoc {l : List Nat} (f : Nat → Nat) {k : Nat} (h : k < l.length) : (l.take k).map f ++ [f (l.getD k 0)] = (l.take (k + 1)).map f := by
  rw [lw_snoc l k h, List.map_append]
  rfl

set_option maxRecDepth 100000 in
set_option maxHeartbeats 1000000 in
theorem rTrim_any (p : Nat) (A : Option Addr) (n c : Nat) (l : List Nat) (w : World) (hp : okP p = true) (hl : RWd w [.slice A n c] l) (hn : n ≤ 100000) :
    Calls Tryz.prog 90 #[.int .u64 p, .slice A n c] w fun e w' => ∃ v, e = .returned v ∧ RWd w' [v] (trimP p l) ∧ Below w.heap.size w w' := by
  obtain ⟨rfl, h1, h2, hlt, hrd⟩ := lw_at hl
  obtain ⟨hp1, hp2⟩ := okP_lt hp
  have HA := Lib.hid (fun a w => rReduce_any p a w hp)
  have HM := Lib.hid (show ∀ x ∈ l.map (· % p), x < 18446744073709551616 from fun x hx => by obtain ⟨y, -, rfl⟩ := List.mem_map.1 hx; exact Nat.lt_trans (Nat.mod_lt _ (by omega)) hp2)
  have HT := Lib.hid (show trimP p l = trimZ (l.map (· % p)) from rfl)
  rw [HT.out]
  obtain ⟨L, hL⟩ : ∃ L, L = l.map (· % p) := ⟨_, rfl⟩
  have HLN := Lib.hid (show L.length = l.length by rw [hL]; simp)
  have HLG := Lib.hid (show ∀ k, L.getD k 0 = l.getD k 0 % p from fun k => by rw [hL]; exact map_mod_get p l k)
  rw [← hL] at HM ⊢
  clear hl h1 h2 hp hlt hp1 hp2 hL HT
  go_enter Tryz.func90, Tryz.ntmps90
  go_wp2_with fail
  go_loopw [5, 6] (fun v i wr => ∃ k : Nat, k ≤ l.length ∧ i = .int .i64 (k : Int) ∧ wr.ownsRow w.heap.size 22 1 v k (U64 (L.take k)) ∧ Below w.heap.size w wr) (fun _ i _ => l.length - (intOf i).toNat)
  case atStart => exact ⟨0, Nat.zero_le _, rfl, ⟨rfl, .inl ⟨rfl, rfl⟩⟩, Below.refl _ _⟩
  case round =>
    obtain ⟨k, hk, rfl, hown, hb⟩ := hrel
    by_cases hlt : k < l.length
    · obtain ⟨b, q, rfl, hbl, hc⟩ := lw_get (hrd.below hb) hlt
      have HF := Lib.hid (lw_snoc L k (by rw [HLN.out]; exact hlt)).symm
      have HG := Lib.hid (HLG.out k)
      obtain ⟨x, hx⟩ : ∃ x, x = l.getD k 0 := ⟨_, rfl⟩
      obtain ⟨z, hz⟩ : ∃ z, z = L.getD k 0 := ⟨_, rfl⟩
      rw [← hx] at hc HG
      rw [← hz] at HF HG
      have HA1 := Lib.hid (fun w => by have := HA.out x w; rw [← HG.out] at this; exact this)
      clear hx hz HG
      go_wp2_with fail
      refine (HA1.out _).mono ?_
      rintro e w2 ⟨rfl, hbx⟩
      replace hb := below_chain hb hbx
      replace hown := own_below hown hbx (Nat.le_refl _)
      clear hbx
      go_wp2_with (at_builtin; refine wpl_append rfl _ _ rfl el_w rfl (hown.alloc _) rfl (rd_one _ _ _) (one_U64 [z]) (by omega) (by simp; have := hb.size; omega) ?_)
      intro v' wn hown' hgrow hblk
      have hal := (Below.refl w2.heap.size w2).alloc (Nat.le_refl _) (.cells #[.int .u64 (z : Int)] 22)
      have hB := lw_grow (hown.alloc _) hgrow (by simp; have := hb.size; omega)
      replace hb := (below_on hb hal hb.size).trans hB
      replace hown : wn.ownsRow w.heap.size 22 1 v' (k + 1) (U64 (L.take (k + 1))) := lw_app (b := [z]) hown' HF.out
      clear hown' hgrow hblk hal hB
      go_wp2
      go_roundw
      case rel => exact ⟨k + 1, by omega, by go_num, hown, hb⟩
      case measure => simp [intOf]; omega
    · obtain rfl : k = l.length := by omega
      rw [List.take_of_length_le (by have := HLN.out; omega)] at hown
      obtain ⟨A1, c1, rfl, hc1, hc2, hrd1, -⟩ := own_form hown
      clear hown hrd
      have hrd2 : Rd wr 1 A1 L.length (U64 L) := by rw [HLN.out]; exact hrd1
      clear hrd1 hk hlt
      obtain ⟨w1, hw1⟩ : ∃ w1, w1 = wr := ⟨_, rfl⟩
      rw [← hw1] at hb hrd2
      have HW := Lib.hid hw1
      clear hw1
      go_wp2_with fail
      go_loopw [5] (fun v wr => ∃ k : Nat, k ≤ l.length ∧ v = .slice A1 k c1 ∧ Hid (trimZ (L.take k) = trimZ L) ∧ Below w1.heap.size w1 wr) (fun v _ => match v with | .slice _ n _ => n | _ => 0)
      case atStart => exact ⟨l.length, Nat.le_refl _, rfl, Lib.hid (by rw [List.take_of_length_le (by have := HLN.out; omega)]), by rw [HW.out]; exact Below.refl _ _⟩
      case round =>
        obtain ⟨k, hk, rfl, HZ, hb1⟩ := hrel
        rcases Nat.eq_zero_or_pos k with h0 | h0
        · subst h0
          go_wp2
          go_ret
          refine ⟨_, rfl, ?_, below_chain hb hb1⟩
          have hz : trimZ L = [] := by rw [← HZ.out]; rfl
          rw [hz]
          exact ⟨A1, 0, c1, rfl, Nat.zero_le _, hc2, ⟨rfl, fun h => absurd h (by omega)⟩, fun x hx => by cases hx⟩
        · obtain ⟨j, hj⟩ : ∃ j, j = k - 1 := ⟨_, rfl⟩
          have hjL : j < L.length := by have := HLN.out; omega
          obtain ⟨b, q, rfl, hbl, hc⟩ := lw_get (hrd2.below hb1) hjL
          obtain ⟨x, hx⟩ : ∃ x, x = L.getD j 0 := ⟨_, rfl⟩
          rw [← hx] at hc
          have HX := Lib.hid hx
          have HJ := Lib.hid hj
          have g1 : (0 : Int) < (k : Int) := by omega
          have g2 : (k : Int) - 1 = (j : Int) := by omega
          have g3 : IntKind.i64.wrap (j : Int) = (j : Int) := wr_i64 _ (by omega) (by omega)
          have g4 : (j : Int) < (k : Int) := by omega
          have g5 : j < k := by omega
          have g6 : j ≤ c1 := by omega
          have g7 : k ≤ c1 := by omega
          clear hx hj
          by_cases hx0 : x = 0
          · subst hx0
            go_wp2
            go_roundw
            case rel => exact ⟨j, by omega, rfl, Lib.hid (by rw [← HZ.out, show k = j + 1 by have := HJ.out; omega, trimZ_step hjL HX.out.symm]), hb1⟩
            case measure => simp; omega
          · have d0 : ((x : Int) == 0) = false := by rw [beq_eq_false_iff_ne]; omega
            go_wp2
            go_ret
            refine ⟨_, rfl, ?_, below_chain hb hb1⟩
            have hk1 : k = j + 1 := by have := HJ.out; omega
            have hz : trimZ L = L.take k := by rw [← HZ.out, hk1, trimZ_stop hjL (by rw [← HX.out]; exact hx0)]
            rw [hz]
            exact ⟨_, k, c1, rfl, g7, hc2, rd_less (hrd2.below hb1) (by have := HLN.out; omega), fun y hy => HM.out y (List.mem_of_mem_take hy)⟩

set_option maxRecDepth 100000 in
set_option maxHeartbeats 1000000 in
theorem rAt_any (A : Option Addr) (n c i : Nat) (l : List Nat) (w : World) (hl : RWd w [.slice A n c] l) :
    Calls Tryz.prog 89 #[.slice A n c, .int .i64 (i : Int)] w fun e w' => e = .returned (.int .u64 ((l.getD i 0 : Nat) : Int)) ∧ Below w.heap.size w w' := by
  obtain ⟨rfl, h1, h2, hlt, hrd⟩ := lw_at hl
  clear hl h2 hlt
  by_cases hi : i < l.length
  · obtain ⟨b, q, rfl, hbl, hc⟩ := lw_get hrd hi
    generalize l.getD i 0 = x at *
    have g1 : (i : Int) < (l.length : Int) := by omega
    have g2 : ¬ ((l.length : Int) ≤ (i : Int)) := by omega
    clear hrd
    go_enter Tryz.func89, Tryz.ntmps89
    go_wp2
    go_ret
    exact ⟨rfl, Below.refl _ _⟩
  · have g2 : (l.length : Int) ≤ (i : Int) := by omega
    have HX := Lib.hid (getD_out (l := l) (i := i) (by omega))
    clear hrd
    rw [HX.out]
    go_enter Tryz.func89, Tryz.ntmps89
    go_wp2
    go_ret
    exact ⟨rfl, Below.refl _ _⟩

theorem addR_lt {p : Nat} (hp : 0 < p) (a b : List Nat) (i : Nat) : addR p a b i < p := Nat.mod_lt _ hp

set_option maxRecDepth 100000 in
set_option maxHeartbeats 1000000 in
theorem rAddP_any (p : Nat) (A B : Option Addr) (n c m d : Nat) (a b : List Nat) (w : World) (hp : okP p = true) (ha : RWd w [.slice A n c] a) (hb' : RWd w [.slice B m d] b) (hn : n ≤ 100000) (hm : m ≤ 100000) :
    Calls Tryz.prog 42 #[.int .u64 p, .slice A n c, .slice B m d] w fun e w' => ∃ v, e = .returned v ∧ RWd w' [v] (addP p a b) ∧ Below w.heap.size w w' := by
  obtain ⟨rfl, -, -, -, -⟩ := lw_at ha
  obtain ⟨rfl, -, -, -, -⟩ := lw_at hb'
  obtain ⟨hp1, hp2⟩ := okP_lt hp
  have HA := Lib.hid (fun i w' (hb : Below w.heap.size w w') => rAt_any A a.length c i a w' (kept_RWd _ _ _ _ hb ha))
  have HB := Lib.hid (fun i w' (hb : Below w.heap.size w w') => rAt_any B b.length d i b w' (kept_RWd _ _ _ _ hb hb'))
  have HS := Lib.hid (fun x y w => rAdd_any p x y w hp)
  have HT := Lib.hid (fun A n c l w hl hn => rTrim_any p A n c l w hp hl hn)
  have HL := Lib.hid (show ∀ N, ∀ x ∈ (List.range N).map (addR p a b), x < 18446744073709551616 from fun N x hx => by obtain ⟨y, -, rfl⟩ := List.mem_map.1 hx; exact Nat.lt_trans (addR_lt (by omega) a b y) hp2)
  obtain ⟨t, ht⟩ : ∃ t, t = max a.length b.length := ⟨_, rfl⟩
  have HE := Lib.hid (show addP p a b = trimP p ((List.range t).map (addR p a b)) by rw [ht]; rfl)
  rw [HE.out]
  have HN := Lib.hid (fun k => range_snoc (addR p a b) k)
  have HR := Lib.hid (fun k => show addR p a b k = (a.getD k 0 + b.getD k 0) % p from rfl)
  clear ha hb' hp hp1 hp2 HE
  generalize addR p a b = f at *
  go_enter Tryz.func42, Tryz.ntmps42
  go_wp2_with fail
  go_loopw [7, 8] (fun v i wr => ∃ k : Nat, k ≤ t ∧ i = .int .i64 (k : Int) ∧ wr.ownsRow w.heap.size 22 1 v k (U64 ((List.range k).map f)) ∧ Below w.heap.size w wr) (fun _ i _ => t - (intOf i).toNat)
  case atStart => exact ⟨0, Nat.zero_le _, rfl, ⟨rfl, .inl ⟨rfl, rfl⟩⟩, Below.refl _ _⟩
  case round =>
    obtain ⟨k, hk, rfl, hown, hb⟩ := hrel
    by_cases hlt : k < t
    · have HA1 := Lib.hid (fun w => HA.out k w)
      have HB1 := Lib.hid (fun w => HB.out k w)
      have HR1 := Lib.hid (HR.out k)
      generalize a.getD k 0 = x at *
      generalize b.getD k 0 = y at *
      have HN1 := Lib.hid (HN.out k)
      obtain ⟨z, hz⟩ : ∃ z, z = f k := ⟨_, rfl⟩
      have HS1 := Lib.hid (fun w => by have := HS.out x y w; rw [← HR1.out, ← hz] at this; exact this)
      rw [← hz] at HN1
      clear hz HR1
      rcases (show k < a.length ∨ (¬ k < a.length ∧ k < b.length) by omega) with h | ⟨h, h'⟩
      · have g1 : (k : Int) < (a.length : Int) := by omega
        clear ht
        go_wp2_with fail
        refine (HA1.out _ hb).mono ?_
        rintro e w2 ⟨rfl, hbx⟩
        replace hb := below_chain hb hbx
        replace hown := own_below hown hbx (Nat.le_refl _)
        clear hbx
        go_wp2_with fail
        refine (HB1.out _ hb).mono ?_
        rintro e w3 ⟨rfl, hbx⟩
        replace hb := below_chain hb hbx
        replace hown := own_below hown hbx (Nat.le_refl _)
        clear hbx
        go_wp2_with fail
        refine (HS1.out _).mono ?_
        rintro e w4 ⟨rfl, hbx⟩
        replace hb := below_chain hb hbx
        replace hown := own_below hown hbx (Nat.le_refl _)
        clear hbx
        go_wp2_with (at_builtin; refine wpl_append rfl _ _ rfl el_w rfl (hown.alloc _) rfl (rd_one _ _ _) (one_U64 [z]) (by omega) (by simp; have := hb.size; omega) ?_)
        intro v' wn hown' hgrow hblk
        have hal := (Below.refl w4.heap.size w4).alloc (Nat.le_refl _) (.cells #[.int .u64 (z : Int)] 22)
        have hB := lw_grow (hown.alloc _) hgrow (by simp; have := hb.size; omega)
        replace hb := (below_on hb hal hb.size).trans hB
        replace hown : wn.ownsRow w.heap.size 22 1 v' (k + 1) (U64 ((List.range (k + 1)).map f)) := lw_app (b := [z]) hown' HN1.out
        clear hown' hgrow hblk hal hB
        go_wp2
        go_roundw
        case rel => exact ⟨k + 1, by omega, by go_num, hown, hb⟩
        case measure => simp [intOf]; omega
      · have g1 : ¬ ((k : Int) < (a.length : Int)) := by omega
        have g2 : (k : Int) < (b.length : Int) := by omega
        clear ht
        go_wp2_with fail
        refine (HA1.out _ hb).mono ?_
        rintro e w2 ⟨rfl, hbx⟩
        replace hb := below_chain hb hbx
        replace hown := own_below hown hbx (Nat.le_refl _)
        clear hbx
        go_wp2_with fail
        refine (HB1.out _ hb).mono ?_
        rintro e w3 ⟨rfl, hbx⟩
        replace hb := below_chain hb hbx
        replace hown := own_below hown hbx (Nat.le_refl _)
        clear hbx
        go_wp2_with fail
        refine (HS1.out _).mono ?_
        rintro e w4 ⟨rfl, hbx⟩
        replace hb := below_chain hb hbx
        replace hown := own_below hown hbx (Nat.le_refl _)
        clear hbx
        go_wp2_with (at_builtin; refine wpl_append rfl _ _ rfl el_w rfl (hown.alloc _) rfl (rd_one _ _ _) (one_U64 [z]) (by omega) (by simp; have := hb.size; omega) ?_)
        intro v' wn hown' hgrow hblk
        have hal := (Below.refl w4.heap.size w4).alloc (Nat.le_refl _) (.cells #[.int .u64 (z : Int)] 22)
        have hB := lw_grow (hown.alloc _) hgrow (by simp; have := hb.size; omega)
        replace hb := (below_on hb hal hb.size).trans hB
        replace hown : wn.ownsRow w.heap.size 22 1 v' (k + 1) (U64 ((List.range (k + 1)).map f)) := lw_app (b := [z]) hown' HN1.out
        clear hown' hgrow hblk hal hB
        go_wp2
        go_roundw
        case rel => exact ⟨k + 1, by omega, by go_num, hown, hb⟩
        case measure => simp [intOf]; omega
    · obtain rfl : k = t := by omega
      have g1 : ¬ ((k : Int) < (a.length : Int)) := by omega
      have g2 : ¬ ((k : Int) < (b.length : Int)) := by omega
      have hk2 : k ≤ 100000 := by omega
      obtain ⟨A1, c1, rfl, hc1, hc2, hrd1, -⟩ := own_form hown
      have hlw := lw_own hown (HL.out k)
      clear ht hown hrd1
      go_wp2_with fail
      refine (HT.out _ _ _ _ _ hlw hk2).mono ?_
      rintro e w5 ⟨v, rfl, hv, hbx⟩
      go_wp2
      go_ret
      exact ⟨_, rfl, hv, below_chain hb hbx⟩
end Go.Proofs.YtefnagiffllhbaaGreat

/- PoC -/
namespace Go.Proofs.YtefnagiffllhbaaGreat
open Go.RowKit

set_option maxRecDepth 100000 in
set_option maxHeartbeats 1000000 in
theorem rScale_any (p : Nat) (A : Option Addr) (n c s : Nat) (l : List Nat) (w : World) (hp : okP p = true) (hl : RWd w [.slice A n c] l) (hn : n ≤ 100000) :
    Calls Tryz.prog 92 #[.int .u64 p, .slice A n c, .int .u64 (s : Int)] w fun e w' => ∃ v, e = .returned v ∧ RWd w' [v] (scaleP p l s) ∧ Below w.heap.size w w' := by
  obtain ⟨rfl, h1, h2, hlt, hrd⟩ := lw_at hl
  obtain ⟨hp1, hp2⟩ := okP_lt hp
  have HA := Lib.hid (fun a w => rMul_any p a s w hp)
  have HM := Lib.hid (show ∀ x ∈ l.map (fun y => y * s % p), x < 18446744073709551616 from fun x hx => by obtain ⟨y, -, rfl⟩ := List.mem_map.1 hx; exact Nat.lt_trans (Nat.mod_lt _ (by omega)) hp2)
  have HS := Lib.hid (fun A n c l w hl hn => rTrim_any p A n c l w hp hl hn)
  have HT := Lib.hid (show scaleP p l s = trimP p (l.map (fun y => y * s % p)) from rfl)
  rw [HT.out]
  clear hl h1 h2 hp hlt hp1 hp2
  obtain ⟨f, hf⟩ : ∃ f, f = fun y => y * s % p := ⟨_, rfl⟩
  have HF0 := Lib.hid (fun y => show f y = y * s % p by rw [hf])
  rw [← hf] at HM ⊢
  obtain ⟨L, hL⟩ : ∃ L, L = l.map f := ⟨_, rfl⟩
  have HLN := Lib.hid (show L.length = l.length by rw [hL]; simp)
  have HLG := Lib.hid (show ∀ k, L.getD k 0 = l.getD k 0 * s % p from fun k => by rw [hL, ← HF0.out]; exact map_get0 f (by rw [HF0.out]; simp) l k)
  rw [← hL] at HM ⊢
  clear hf HT hL HF0
  go_enter Tryz.func92, Tryz.ntmps92
  go_wp2_with fail
  go_loopw [7, 8] (fun v i wr => ∃ k : Nat, k ≤ l.length ∧ i = .int .i64 (k : Int) ∧ wr.ownsRow w.heap.size 22 1 v k (U64 (L.take k)) ∧ Below w.heap.size w wr) (fun _ i _ => l.length - (intOf i).toNat)
  case atStart => exact ⟨0, Nat.zero_le _, rfl, ⟨rfl, .inl ⟨rfl, rfl⟩⟩, Below.refl _ _⟩
  case round =>
    obtain ⟨k, hk, rfl, hown, hb⟩ := hrel
    by_cases hlt : k < l.length
    · obtain ⟨b, q, rfl, hbl, hc⟩ := lw_get (hrd.below hb) hlt
      have HF := Lib.hid (lw_snoc L k (by rw [HLN.out]; exact hlt)).symm
      have HG := Lib.hid (HLG.out k)
      obtain ⟨x, hx⟩ : ∃ x, x = l.getD k 0 := ⟨_, rfl⟩
      obtain ⟨z, hz⟩ : ∃ z, z = L.getD k 0 := ⟨_, rfl⟩
      rw [← hx] at hc HG
      rw [← hz] at HF HG
      have HA1 := Lib.hid (fun w => by have := HA.out x w; rw [← HG.out] at this; exact this)
      clear hx hz HG
      go_wp2_with fail
      refine (HA1.out _).mono ?_
      rintro e w2 ⟨rfl, hbx⟩
      replace hb := below_chain hb hbx
      replace hown := own_below hown hbx (Nat.le_refl _)
      clear hbx
      go_wp2_with (at_builtin; refine wpl_append rfl _ _ rfl el_w rfl (hown.alloc _) rfl (rd_one _ _ _) (one_U64 [z]) (by omega) (by simp; have := hb.size; omega) ?_)
      intro v' wn hown' hgrow hblk
      have hal := (Below.refl w2.heap.size w2).alloc (Nat.le_refl _) (.cells #[.int .u64 (z : Int)] 22)
      have hB := lw_grow (hown.alloc _) hgrow (by simp; have := hb.size; omega)
      replace hb := (below_on hb hal hb.size).trans hB
      replace hown : wn.ownsRow w.heap.size 22 1 v' (k + 1) (U64 (L.take (k + 1))) := lw_app (b := [z]) hown' HF.out
      clear hown' hgrow hblk hal hB
      go_wp2
      go_roundw
      case rel => exact ⟨k + 1, by omega, by go_num, hown, hb⟩
      case measure => simp [intOf]; omega
    · obtain rfl : k = l.length := by omega
      rw [List.take_of_length_le (by have := HLN.out; omega)] at hown
      obtain ⟨A1, c1, rfl, -, -, -, -⟩ := own_form hown
      have hlw := lw_own hown HM.out
      clear hown hrd
      go_wp2_with fail
      refine (HS.out _ _ _ _ _ hlw hn).mono ?_
      rintro e w5 ⟨v, rfl, hv, hbx⟩
      go_wp2
      go_ret
      exact ⟨_, rfl, hv, below_chain hb hbx⟩

theorem fill_zero (n : Nat) : (fillC n fun _ => 0).toList = U64 (List.replicate n 0) := by
  simp [fillC, U64]
  exact (List.map_const' ..).trans (by rw [List.length_range])

set_option maxRecDepth 100000 in
set_option maxHeartbeats 1000000 in
theorem rShift_any (A : Option Addr) (n c m : Nat) (l : List Nat) (w : World) (hl : RWd w [.slice A n c] l) (hn : n ≤ 100000) (hm : m ≤ 100000) :
    Calls Tryz.prog 91 #[.slice A n c, .int .i64 (m : Int)] w fun e w' => ∃ v, e = .returned v ∧ w'.ownsRow w.heap.size 22 1 v (m + n) (U64 (shiftP l m)) ∧ Below w.heap.size w w' := by
  obtain ⟨rfl, h1, h2, hlt, hrd⟩ := lw_at hl
  have mk := mk_words m (by omega)
  have g0 : (0 : Int) ≤ (m : Int) := by omega
  have g1 : (m : Int) ≤ 100000 := by omega
  have own0 : (w.alloc (.cells (fillC m fun _ => 0) 22)).ownsRow w.heap.size 22 1 (.slice (some ⟨w.heap.size, 0, none⟩) m m) m (U64 (List.replicate m 0)) := by
    have := World.ownsRow_lit (base := w.heap.size) (e := 22) (size := 1) w (fillC m fun _ => 0) m (Nat.le_refl _) (by simp [maxLen]; omega) (by simp [fillC])
    rw [fill_zero] at this
    exact this
  have hal := (Below.refl w.heap.size w).alloc (Nat.le_refl _) (.cells (fillC m fun _ => 0) 22)
  have HL := Lib.hid (show List.replicate m 0 ++ l = shiftP l m from rfl)
  have hrd1 := hrd.below hal
  clear hl h2 hlt hrd
  go_enter Tryz.func91, Tryz.ntmps91
  go_wp2_with (at_builtin; refine wpl_append rfl _ _ rfl el_w rfl own0 rfl hrd1 (one_U64 l) (by omega) (by simp) ?_)
  intro v' w2 hown hgrow hblk
  have hB := lw_grow own0 hgrow (by simp)
  replace hown := lw_app hown HL.out
  go_wp2
  go_ret
  exact ⟨_, rfl, hown, hal.trans hB⟩

theorem shiftP_lt {l : List Nat} {B : Nat} (hB : 0 < B) (hl : ∀ x ∈ l, x < B) (m : Nat) : ∀ x ∈ shiftP l m, x < B := fun x hx => by
  rcases List.mem_append.1 hx with h | h
  · rw [(List.mem_replicate.1 h).2]; exact hB
  · exact hl x h
theorem rwd_lt {w : World} {v : Value} {l : List Nat} (h : RWd w [v] l) : ∀ x ∈ l, x < 18446744073709551616 := by
  obtain ⟨A, n, c, -, -, -, -, h4⟩ := h
  exact h4
theorem rwd_form {w : World} {v : Value} {l : List Nat} (h : RWd w [v] l) : ∃ A c, v = .slice A l.length c := by
  obtain ⟨A, n, c, he, -, -, h3, -⟩ := id h
  simp at he
  subst he
  have := h3.len1
  rw [len_U64] at this
  subst this
  exact ⟨A, c, rfl⟩

set_option maxRecDepth 100000 in
set_option maxHeartbeats 2000000 in
theorem rMulP_any (p : Nat) (A B : Option Addr) (n c m d : Nat) (a b : List Nat) (w : World) (hp : okP p = true) (ha : RWd w [.slice A n c] a) (hb' : RWd w [.slice B m d] b) (hn : n ≤ 40000) (hm : m ≤ 40000) :
    Calls Tryz.prog 43 #[.int .u64 p, .slice A n c, .slice B m d] w fun e w' => ∃ v, e = .returned v ∧ RWd w' [v] (mulP p a b) ∧ Below w.heap.size w w' := by
  obtain ⟨rfl, -, -, -, hrd⟩ := lw_at ha
  obtain ⟨rfl, -, -, -, -⟩ := lw_at hb'
  have HA := Lib.hid (fun A B n c m d a b w ha hb hn hm => rAddP_any p A B n c m d a b w hp ha hb hn hm)
  have HS := Lib.hid (fun s w' (hb : Below w.heap.size w w') => rScale_any p B b.length d s b w' hp (kept_RWd _ _ _ _ hb hb') (by omega))
  have HK := Lib.hid (fun k => show mulK p a b (k + 1) = addP p (mulK p a b k) (shiftP (scaleP p b (a.getD k 0)) k) from rfl)
  have HL := Lib.hid (fun k (hk : k < a.length) => show (mulK p a b k).length ≤ 100000 by cases k with
    | zero => exact Nat.zero_le _
    | succ k => have := mulK_len p a b k; omega)
  have HC := Lib.hid (fun s => show (scaleP p b s).length ≤ 40000 by have := scaleP_len p b s; omega)
  have HE := Lib.hid (show mulP p a b = mulK p a b a.length from rfl)
  rw [HE.out]
  obtain ⟨f, hf⟩ : ∃ f, f = mulK p a b := ⟨_, rfl⟩
  have H0 := Lib.hid (show f 0 = [] by rw [hf]; rfl)
  obtain ⟨g, hg⟩ : ∃ g, g = scaleP p b := ⟨_, rfl⟩
  rw [← hf] at HK HL ⊢
  rw [← hg] at HK HC HS
  clear ha hb' hp HE hf hg
  go_enter Tryz.func43, Tryz.ntmps43
  go_wp2_with fail
  go_loopw [7, 8] (fun v i wr => ∃ k : Nat, k ≤ a.length ∧ i = .int .i64 (k : Int) ∧ RWd wr [v] (f k) ∧ Below w.heap.size w wr) (fun _ i _ => a.length - (intOf i).toNat)
  case atStart => exact ⟨0, Nat.zero_le _, rfl, by rw [H0.out]; exact ⟨none, 0, 0, rfl, Nat.le_refl _, by simp [maxLen], ⟨rfl, fun h => absurd h (by omega)⟩, fun x hx => by cases hx⟩, Below.refl _ _⟩
  case round =>
    obtain ⟨k, hk, rfl, hv, hb⟩ := hrel
    obtain ⟨A1, c1, rfl⟩ := rwd_form hv
    by_cases hlt : k < a.length
    · obtain ⟨b1, q, rfl, hbl, hc⟩ := lw_get (hrd.below hb) hlt
      have HK1 := Lib.hid (HK.out k)
      have HL1 := Lib.hid (HL.out k hlt)
      generalize a.getD k 0 = x at *
      have HS1 := Lib.hid (fun w => HS.out x w)
      have HC1 := Lib.hid (HC.out x)
      generalize g x = s at *
      obtain ⟨f0, hf0⟩ : ∃ f0, f0 = f k := ⟨_, rfl⟩
      rw [← hf0] at hv HK1 HL1 ⊢
      clear hf0
      go_wp2_with fail
      refine (HS1.out _ hb).mono ?_
      rintro e w2 ⟨v2, rfl, h2, hbx⟩
      replace hb := below_chain hb hbx
      replace hv := kept_RWd _ _ _ _ hbx hv
      clear hbx
      obtain ⟨A2, c2, rfl⟩ := rwd_form h2
      have hsl := HC1.out
      have hlt2 := rwd_lt h2
      go_wp2_with fail
      refine (rShift_any A2 s.length c2 k s _ h2 (by omega) (by omega)).mono ?_
      rintro e w3 ⟨v3, rfl, h3, hbx⟩
      replace hb := below_chain hb hbx
      replace hv := kept_RWd _ _ _ _ hbx hv
      clear hbx h2
      obtain ⟨A3, c3, rfl, -⟩ := own_form h3
      have hw3 := lw_own h3 (shiftP_lt (by omega) hlt2 k)
      go_wp2_with fail
      refine (HA.out _ _ _ _ _ _ _ _ _ hv hw3 HL1.out (by omega)).mono ?_
      rintro e w4 ⟨v4, rfl, h4, hbx⟩
      replace hb := below_chain hb hbx
      rw [← HK1.out] at h4
      go_wp2
      go_roundw
      case rel => exact ⟨k + 1, by omega, by go_num, h4, hb⟩
      case measure => simp [intOf]; omega
    · obtain rfl : k = a.length := by omega
      go_wp2
      go_ret
      exact ⟨_, rfl, hv, hb⟩

set_option maxRecDepth 100000 in
set_option maxHeartbeats 1000000 in
theorem rEval_any (p : Nat) (A : Option Addr) (n c x : Nat) (l : List Nat) (w : World) (hp : okP p = true) (hl : RWd w [.slice A n c] l) :
    Calls Tryz.prog 17 #[.int .u64 p, .slice A n c, .int .u64 (x : Int)] w fun e w' => e = .returned (.int .u64 ((evalP p l x : Nat) : Int)) ∧ Below w.heap.size w w' := by
  obtain ⟨rfl, h1, h2, hlt, hrd⟩ := lw_at hl
  have gm := lw_max h1 h2
  have HM := Lib.hid (fun a b w => rMul_any p a b w hp)
  have HA := Lib.hid (fun a b w => rAdd_any p a b w hp)
  have HE := Lib.hid (show evalP p l x = evS p l (powR p x) l.length from rfl)
  rw [HE.out]
  obtain ⟨f, hf⟩ : ∃ f, f = evS p l (powR p x) := ⟨_, rfl⟩
  obtain ⟨g, hg⟩ : ∃ g, g = powR p x := ⟨_, rfl⟩
  have HF0 := Lib.hid (show f 0 = 0 by rw [hf]; rfl)
  have HF := Lib.hid (fun k => show f (k + 1) = (f k + l.getD k 0 * g k % p) % p by rw [hf, hg]; rfl)
  have HG0 := Lib.hid (show g 0 = 1 by rw [hg]; rfl)
  have HG := Lib.hid (fun k => show g (k + 1) = g k * x % p by rw [hg]; rfl)
  rw [← hf]
  clear hf hg HE hl h1 h2 hp hlt
  go_enter Tryz.func17, Tryz.ntmps17
  go_wp2_with fail
  go_loopw [7, 8, 9] (fun y z i wr => ∃ k : Nat, k ≤ l.length ∧ i = .int .i64 (k : Int) ∧ y = .int .u64 (f k : Int) ∧ z = .int .u64 (g k : Int) ∧ Below w.heap.size w wr) (fun _ _ i _ => l.length - (intOf i).toNat)
  case atStart => exact ⟨0, Nat.zero_le _, rfl, by rw [HF0.out]; rfl, by rw [HG0.out]; rfl, Below.refl _ _⟩
  case round =>
    obtain ⟨k, hk, rfl, rfl, rfl, hb⟩ := hrel
    by_cases hlt : k < l.length
    · obtain ⟨b, q, rfl, hbl, hc⟩ := lw_get (hrd.below hb) hlt
      have HF1 := Lib.hid (HF.out k)
      have HG1 := Lib.hid (HG.out k)
      generalize l.getD k 0 = y at *
      obtain ⟨z, hz⟩ : ∃ z, z = y * g k % p := ⟨_, rfl⟩
      rw [← hz] at HF1
      have HM1 := Lib.hid (fun w => by have := HM.out y (g k) w; rw [← hz] at this; exact this)
      have HM2 := Lib.hid (fun w => by have := HM.out (g k) x w; rw [← HG1.out] at this; exact this)
      have HA1 := Lib.hid (fun w => by have := HA.out (f k) z w; rw [← HF1.out] at this; exact this)
      obtain ⟨f1, hf1⟩ : ∃ f1, f1 = f (k + 1) := ⟨_, rfl⟩
      obtain ⟨g1, hg1⟩ : ∃ g1, g1 = g (k + 1) := ⟨_, rfl⟩
      rw [← hf1] at HA1
      rw [← hg1] at HM2
      have HH := Lib.hid (And.intro hf1 hg1)
      clear hz HF1 HG1 hf1 hg1
      generalize f k = fk at *
      generalize g k = gk at *
      go_wp2_with fail
      refine (HM1.out _).mono ?_
      rintro e w2 ⟨rfl, hbx⟩
      replace hb := below_chain hb hbx
      clear hbx
      go_wp2_with fail
      refine (HA1.out _).mono ?_
      rintro e w3 ⟨rfl, hbx⟩
      replace hb := below_chain hb hbx
      clear hbx
      go_wp2_with fail
      refine (HM2.out _).mono ?_
      rintro e w4 ⟨rfl, hbx⟩
      replace hb := below_chain hb hbx
      clear hbx
      go_wp2
      go_roundw
      case rel => exact ⟨k + 1, by omega, by go_num, by rw [← HH.out.1], by rw [← HH.out.2], hb⟩
      case measure => simp [intOf]; omega
    · obtain rfl : k = l.length := by omega
      go_wp2
      go_ret
      exact ⟨rfl, hb⟩
end Go.Proofs.YtefnagiffllhbaaGreat

/- PoD -/
namespace Go.Proofs.YtefnagiffllhbaaGreat
open Go.RowKit

/-- a times the powers of b. -/
def geoR (p a b : Nat) : Nat → Nat
  | 0 => a
  | k + 1 => geoR p a b k * b % p
theorem geoR_lt {p a b : Nat} (hp : 0 < p) (ha : a < p) : ∀ k, geoR p a b k < p
  | 0 => ha
  | _ + 1 => Nat.mod_lt _ hp
/-- ref04.Domain's points. -/
def domR (p s n : Nat) : Nat → Nat := geoR p (s % p) (rootP p n)
/-- ref04.Eval. -/
def hornP (p x : Nat) : List Nat → Nat
  | [] => 0
  | c :: l => (hornP p x l * x % p + c) % p
theorem hornP_lt {p : Nat} (hp : 0 < p) (x : Nat) : ∀ l, hornP p x l < p
  | [] => hp
  | _ :: _ => Nat.mod_lt _ hp
theorem hornP_drop (p x : Nat) (l : List Nat) (k : Nat) (h : k < l.length) : hornP p x (l.drop k) = (hornP p x (l.drop (k + 1)) * x % p + l.getD k 0) % p := by
  rw [List.drop_eq_getElem_cons h, hornP, List.getD_eq_getElem?_getD, List.getElem?_eq_getElem h]
  rfl

set_option maxRecDepth 100000 in
set_option maxHeartbeats 1000000 in
theorem rLength_any (p n : Nat) (w : World) (hp : okP p = true) (hn : LenOk p n) :
    Calls Tryz.prog 93 #[.int .u64 p, .int .i64 (n : Int)] w fun e w' => e = .returned (.bool true) ∧ Below w.heap.size w w' := by
  have HR := Lib.hid (fun w => rRoot_any p n w hp hn)
  have g1 : (n : Int) ≤ 4096 := by have := hn.le; omega
  clear hp hn
  go_enter Tryz.func93, Tryz.ntmps93
  go_wp2_with fail
  refine (HR.out _).mono ?_
  rintro e w1 ⟨rfl, hb⟩
  go_wp2
  go_ret
  exact ⟨rfl, hb⟩

set_option maxRecDepth 100000 in
set_option maxHeartbeats 1000000 in
theorem rDomain_any (p s n : Nat) (w : World) (hp : okP p = true) (hn : LenOk p n) (hs : s % p ≠ 0) :
    Calls Tryz.prog 45 #[.int .u64 p, .int .u64 (s : Int), .int .i64 (n : Int)] w fun e w' => ∃ v, e = .returned (.tuple #[v, .int .i64 0]) ∧ w'.ownsRow w.heap.size 22 1 v n (U64 ((List.range n).map (domR p s n))) ∧ Below w.heap.size w w' := by
  obtain ⟨hp1, hp2⟩ := okP_lt hp
  have hn4 := hn.le
  have HO := Lib.hid (fun w => by have := rValidP_any p w hp2; rw [hp] at this; exact this)
  have HR := Lib.hid (fun w => rRoot_any p n w hp hn)
  have HL := Lib.hid (fun w => rLength_any p n w hp hn)
  have HM := Lib.hid (fun a b w => rMul_any p a b w hp)
  obtain ⟨r, hr⟩ : ∃ r, r = rootP p n := ⟨_, rfl⟩
  obtain ⟨x0, hx0⟩ : ∃ x0, x0 = s % p := ⟨_, rfl⟩
  obtain ⟨f, hf⟩ : ∃ f, f = domR p s n := ⟨_, rfl⟩
  have HF0 := Lib.hid (show f 0 = x0 by rw [hf, hx0]; rfl)
  have HF := Lib.hid (fun k => show f (k + 1) = f k * r % p by rw [hf, hr]; rfl)
  have p1 : (0 : Int) < (p : Int) := by omega
  have p2 : ((p : Int) == 0) = false := by rw [beq_eq_false_iff_ne]; omega
  have p3 : ¬ (p = 0) := by omega
  have e1 : (s : Int) % (p : Int) = (x0 : Int) := by rw [hx0]; rfl
  have e2 : (s : Int).tmod (p : Int) = (x0 : Int) := by rw [hx0]; rfl
  have e3 : ((x0 : Int) == 0) = false := by rw [beq_eq_false_iff_ne]; omega
  have HS := Lib.hid (fun k => range_snoc f k)
  rw [← hr] at HR
  rw [← hf]
  clear hr hf hx0 hs hn hp hp1 hp2
  go_enter Tryz.func45, Tryz.ntmps45
  go_wp2_with fail
  refine (HO.out _).mono ?_
  rintro e w1 ⟨rfl, hb⟩
  go_wp2_with fail
  refine (HL.out _).mono ?_
  rintro e w2 ⟨rfl, hbx⟩
  replace hb := below_chain hb hbx
  clear hbx
  go_wp2_with fail
  refine (HR.out _).mono ?_
  rintro e w3 ⟨rfl, hbx⟩
  replace hb := below_chain hb hbx
  clear hbx
  go_wp2_with fail
  go_loopw [10, 11, 12] (fun y v i wr => ∃ k : Nat, k ≤ n ∧ i = .int .i64 (k : Int) ∧ y = .int .u64 (f k : Int) ∧ wr.ownsRow w.heap.size 22 1 v k (U64 ((List.range k).map f)) ∧ Below w.heap.size w wr) (fun _ _ i _ => n - (intOf i).toNat)
  case atStart => exact ⟨0, Nat.zero_le _, rfl, by rw [HF0.out], ⟨rfl, .inl ⟨rfl, rfl⟩⟩, hb⟩
  case round =>
    clear hb
    obtain ⟨k, hk, rfl, rfl, hown, hb⟩ := hrel
    by_cases hlt : k < n
    · have g1 : (k : Int) < (n : Int) := by omega
      have HS1 := Lib.hid (HS.out k)
      have HF1 := Lib.hid (HF.out k)
      obtain ⟨y, hy⟩ : ∃ y, y = f (k + 1) := ⟨_, rfl⟩
      have HY := Lib.hid hy
      obtain ⟨z, hz⟩ : ∃ z, z = f k := ⟨_, rfl⟩
      rw [← hy, ← hz] at HF1
      rw [← hz] at HS1 ⊢
      have HM1 := Lib.hid (fun w => by have := HM.out z r w; rw [← HF1.out] at this; exact this)
      clear hy hz HF1
      go_wp2_with (at_builtin; refine wpl_append rfl _ _ rfl el_w rfl (hown.alloc _) rfl (rd_one _ _ _) (one_U64 [z]) (by omega) (by simp; have := hb.size; omega) ?_)
      intro v' wn hown' hgrow hblk
      have hal := (Below.refl wr.heap.size wr).alloc (Nat.le_refl _) (.cells #[.int .u64 (z : Int)] 22)
      have hB := lw_grow (hown.alloc _) hgrow (by simp; have := hb.size; omega)
      replace hb := (below_on hb hal hb.size).trans hB
      replace hown : wn.ownsRow w.heap.size 22 1 v' (k + 1) (U64 ((List.range (k + 1)).map f)) := lw_app (b := [z]) hown' HS1.out
      clear hown' hgrow hblk hal hB
      go_wp2_with fail
      refine (HM1.out _).mono ?_
      rintro e w4 ⟨rfl, hbx⟩
      replace hb := below_chain hb hbx
      replace hown := own_below hown hbx (Nat.le_refl _)
      clear hbx
      go_wp2
      go_roundw
      case rel => exact ⟨k + 1, by omega, by go_num, by rw [HY.out], hown, hb⟩
      case measure => simp [intOf]; omega
    · obtain rfl : k = n := by omega
      have g1 : ¬ ((k : Int) < (k : Int)) := by omega
      go_wp2
      go_ret2
      exact ⟨_, rfl, hown, hb⟩

set_option maxRecDepth 100000 in
set_option maxHeartbeats 1000000 in
theorem rHorn_any (p : Nat) (A : Option Addr) (n c x : Nat) (l : List Nat) (w : World) (hp : okP p = true) (hl : RWd w [.slice A n c] l) :
    Calls Tryz.prog 123 #[.int .u64 p, .slice A n c, .int .u64 (x : Int)] w fun e w' => e = .returned (.int .u64 ((hornP p x l : Nat) : Int)) ∧ Below w.heap.size w w' := by
  obtain ⟨rfl, h1, h2, hlt, hrd⟩ := lw_at hl
  have gm := lw_max h1 h2
  have HM := Lib.hid (fun a b w => rMul_any p a b w hp)
  have HA := Lib.hid (fun a b w => rAdd_any p a b w hp)
  have HD := Lib.hid (hornP_drop p x l)
  obtain ⟨f, hf⟩ : ∃ f, f = fun k => hornP p x (l.drop k) := ⟨_, rfl⟩
  have HF0 := Lib.hid (show f 0 = hornP p x l by rw [hf]; rfl)
  have HF9 := Lib.hid (show f l.length = 0 by rw [hf]; simp [hornP])
  have HF := Lib.hid (fun k (hk : k < l.length) => show f k = (f (k + 1) * x % p + l.getD k 0) % p by rw [hf]; exact HD.out k hk)
  rw [← HF0.out]
  clear HD hl h1 h2 hp hlt hf HF0
  obtain ⟨m, hm⟩ : ∃ m : Int, m = (l.length : Int) - 1 := ⟨_, rfl⟩
  have g0 : (l.length : Int) - 1 = m := hm.symm
  have gw : IntKind.i64.wrap m = m := wr_i64 _ (by omega) (by omega)
  have HMM := Lib.hid hm
  clear hm
  go_enter Tryz.func123, Tryz.ntmps123
  go_wp2_with fail
  clear g0 gw
  go_loopw [7, 8] (fun y i wr => ∃ (k : Nat) (j : Int), Hid (j + 1 = (k : Int)) ∧ k ≤ l.length ∧ i = .int .i64 j ∧ y = .int .u64 (f k : Int) ∧ Below w.heap.size w wr) (fun _ i _ => (intOf i + 1).toNat)
  case atStart => exact ⟨l.length, m, Lib.hid (by have := HMM.out; omega), Nat.le_refl _, rfl, by rw [HF9.out]; rfl, Below.refl _ _⟩
  case round =>
    obtain ⟨k, j, HJ, hk, rfl, rfl, hb⟩ := hrel
    rcases Nat.eq_zero_or_pos k with h0 | h0
    · subst h0
      have hj : j = -1 := by have := HJ.out; omega
      subst hj
      go_wp2
      go_ret
      exact ⟨rfl, hb⟩
    · obtain ⟨i, hi⟩ : ∃ i, i = k - 1 := ⟨_, rfl⟩
      have hj : j = (i : Int) := by have := HJ.out; omega
      subst hj
      have hil : i < l.length := by omega
      obtain ⟨b, q, rfl, hbl, hc⟩ := lw_get (hrd.below hb) hil
      have HF1 := Lib.hid (HF.out i hil)
      rw [show i + 1 = k by omega] at HF1
      obtain ⟨y, hy⟩ : ∃ y, y = f k := ⟨_, rfl⟩
      rw [← hy] at HF1 ⊢
      generalize l.getD i 0 = a at *
      obtain ⟨z, hz⟩ : ∃ z, z = y * x % p := ⟨_, rfl⟩
      have HM1 := Lib.hid (fun w => by have := HM.out y x w; rw [← hz] at this; exact this)
      rw [← hz] at HF1
      have HA1 := Lib.hid (fun w => by have := HA.out z a w; rw [← HF1.out] at this; exact this)
      have HI := Lib.hid hi
      obtain ⟨y2, hy2⟩ : ∃ y2, y2 = f i := ⟨_, rfl⟩
      rw [← hy2] at HA1
      have HY2 := Lib.hid hy2
      have gi1 : (0 : Int) ≤ (i : Int) := by omega
      have gi2 : (i : Int) < (l.length : Int) := by omega
      obtain ⟨j2, hj2⟩ : ∃ j2 : Int, j2 = (i : Int) - 1 := ⟨_, rfl⟩
      have gj : (i : Int) - 1 = j2 := hj2.symm
      have gw : IntKind.i64.wrap j2 = j2 := wr_i64 _ (by omega) (by omega)
      have HJ2 := Lib.hid hj2
      clear hz hy hi HF1 hy2 hj2
      go_upto_region 5 with fail
      refine wpGO_begin (Later) (later_moves) [] [] [0, 1, 2, 3, 4, 5, 6, 7, 8, 9, 10] (by kernel_rfl) (by kernel_rfl) ?_
      refine wpGO_start (later_moves) ?_
      intro Wc hacc
      repeat (first | (refine wpGO_skip (later_moves) rfl rfl rfl rfl (fun _ _ _ h => h) ?_ ; simp only [Act.put, List.setIfInBounds_toArray, List.set_cons_zero, List.set_cons_succ]) | (refine wpGO_light (v := ?_) (later_moves) rfl rfl rfl rfl (fun _ _ _ h => h) ?_ ?_ ; rotate_left ; (· (intro w' hR ; (first | have hcells := later_cellsD ((later_moves).trans _ _ _ hacc hR) | skip) ; go_simp ; try with_reducible rfl)) ; simp only [Act.put, List.setIfInBounds_toArray, List.set_cons_zero, List.set_cons_succ]))
      refine wpGO_call (later_moves) rfl rfl rfl rfl (fun _ _ _ h => h) (fun _ => by go_simp <;> rfl) (fun w' hR => HM1.out _) ?_
      simp only [Act.put, List.setIfInBounds_toArray, List.set_cons_zero, List.set_cons_succ]
      repeat (first | (refine wpGO_skip (later_moves) rfl rfl rfl rfl (fun _ _ _ h => h) ?_ ; simp only [Act.put, List.setIfInBounds_toArray, List.set_cons_zero, List.set_cons_succ]) | (refine wpGO_light (v := ?_) (later_moves) rfl rfl rfl rfl (fun _ _ _ h => h) ?_ ?_ ; rotate_left ; (· (intro w' hR ; (first | have hcells := later_cellsD ((later_moves).trans _ _ _ hacc hR) | skip) ; go_simp ; try with_reducible rfl)) ; simp only [Act.put, List.setIfInBounds_toArray, List.set_cons_zero, List.set_cons_succ]))
      refine wpGO_call (later_moves) rfl rfl rfl rfl (fun _ _ _ h => h) (fun _ => by go_simp <;> rfl) (fun w' hR => HA1.out _) ?_
      simp only [Act.put, List.setIfInBounds_toArray, List.set_cons_zero, List.set_cons_succ]
      repeat (first | (refine wpGO_skip (later_moves) rfl rfl rfl rfl (fun _ _ _ h => h) ?_ ; simp only [Act.put, List.setIfInBounds_toArray, List.set_cons_zero, List.set_cons_succ]) | (refine wpGO_light (v := ?_) (later_moves) rfl rfl rfl rfl (fun _ _ _ h => h) ?_ ?_ ; rotate_left ; (· (intro w' hR ; (first | have hcells := later_cellsD ((later_moves).trans _ _ _ hacc hR) | skip) ; go_simp ; try with_reducible rfl)) ; simp only [Act.put, List.setIfInBounds_toArray, List.set_cons_zero, List.set_cons_succ]))
      refine wpGO_done rfl ?_
      intro wd hRd
      replace hacc := (later_moves).trans _ _ _ hacc hRd
      clear hRd
      go_wp2
      go_roundw
      case rel => exact ⟨i, j2, Lib.hid (by have := HJ2.out; omega), by omega, rfl, by rw [HY2.out], below_chain hb.drew hacc⟩
      case measure => have := HJ2.out; simp [intOf]; omega

theorem upTo_row {n i v : Nat} {F G : Nat → Nat} (h : v = F i) : (U64 ((List.range n).map (upTo F G i))).set i (.int .u64 (v : Int)) = U64 ((List.range n).map (upTo F G (i + 1))) := by
  have := upTo_set (n := n) (G := G) h
  rw [fill_U64, fill_U64] at this
  have h2 := congrArg Array.toList this
  simpa using h2
theorem upTo_row0 (n : Nat) (F G : Nat → Nat) : (List.range n).map (upTo F G 0) = (List.range n).map G := List.map_congr_left fun i _ => by simp [upTo]
theorem upTo_rown (n : Nat) (F G : Nat → Nat) : (List.range n).map (upTo F G n) = (List.range n).map F := List.map_congr_left fun i hi => by simp [upTo, List.mem_range.1 hi]
theorem upTo_at {n i : Nat} (F G : Nat → Nat) (h : i < n) : (U64 ((List.range n).map (upTo F G i)))[i]? = some (.int .u64 (G i : Int)) := by simp [U64, upTo, h]

set_option maxRecDepth 100000 in
set_option maxHeartbeats 1000000 in
theorem rEvaluate_any (p s n : Nat) (A : Option Addr) (m c : Nat) (l : List Nat) (w : World) (hp : okP p = true) (hl : RWd w [.slice A m c] l) (hn : LenOk p n) (hs : s % p ≠ 0) (hm : m ≤ 8192) :
    Calls Tryz.prog 88 #[.int .u64 p, .slice A m c, .int .u64 (s : Int), .int .i64 (n : Int)] w fun e w' => ∃ v, e = .returned (.tuple #[v, .int .i64 0]) ∧ w'.ownsRow w.heap.size 22 1 v n (U64 ((List.range n).map fun i => hornP p (domR p s n i) l)) ∧ Below w.heap.size w w' := by
  have hn4 := hn.le
  have hn1 := hn.pos
  have HD := Lib.hid (fun w => rDomain_any p s n w hp hn hs)
  have HH := Lib.hid (fun x w' (hb : Below w.heap.size w w') => rHorn_any p A m c x l w' hp (kept_RWd _ _ _ _ hb hl))
  obtain ⟨G, hG⟩ : ∃ G, G = domR p s n := ⟨_, rfl⟩
  obtain ⟨F, hF⟩ : ∃ F, F = fun i => hornP p (G i) l := ⟨_, rfl⟩
  have HFG := Lib.hid (fun i => show F i = hornP p (G i) l by rw [hF])
  rw [← hG] at HD ⊢
  rw [← hF]
  clear hG hF hl hp hn hs
  have gm : (m : Int) ≤ 8192 := by omega
  go_enter Tryz.func88, Tryz.ntmps88
  go_wp2_with fail
  refine (HD.out _).mono ?_
  rintro e w1 ⟨v, rfl, hown, hb⟩
  obtain ⟨g, cap, rfl, hg1, hg2⟩ := World.ownsRow.form hown (by omega)
  go_wp2_with fail
  have gn : (n : Int) ≤ 4096 := by omega
  have H0 := Lib.hid (upTo_row0 n F G)
  go_loopw [12] (fun i wr => ∃ k : Nat, k ≤ n ∧ i = .int .i64 (k : Int) ∧ wr.ownsRow w.heap.size 22 1 (.slice (some ⟨g, 0, none⟩) n cap) n (U64 ((List.range n).map (upTo F G k))) ∧ Below w.heap.size w wr) (fun i _ => n - (intOf i).toNat)
  case atStart => exact ⟨0, Nat.zero_le _, rfl, by rw [H0.out]; exact hown, hb⟩
  case round =>
    clear hown hb
    obtain ⟨k, hk, rfl, hown, hb⟩ := hrel
    by_cases hlt : k < n
    · have g1 : (k : Int) < (n : Int) := by omega
      have c0 : wr.cell? ⟨g, k, none⟩ = some (.int .u64 (G k : Int)) := by rw [hown.cellAt k (by omega)]; exact upTo_at F G hlt
      have lg : g < wr.heap.size := World.block_lt_of_cell? _ _ c0
      obtain ⟨x, hx⟩ : ∃ x, x = G k := ⟨_, rfl⟩
      obtain ⟨z, hz⟩ : ∃ z, z = F k := ⟨_, rfl⟩
      have HST := Lib.hid (upTo_row (n := n) (G := G) hz)
      have ez : hornP p x l = z := by rw [hz, HFG.out, hx]
      have HH1 := Lib.hid (fun w' hb => by have := HH.out x w' hb; rw [ez] at this; exact this)
      clear ez
      rw [← hx] at c0
      have HX := Lib.hid hx
      clear hx hz
      go_wp2_with fail
      refine (HH1.out _ hb).mono ?_
      rintro e w2 ⟨rfl, hbx⟩
      replace hb := below_chain hb hbx
      replace hown := own_below hown hbx (Nat.le_refl _)
      clear hbx
      clear c0 lg
      have c2 : w2.cell? ⟨g, k, none⟩ = some (.int .u64 (x : Int)) := by rw [hown.cellAt k (by omega), HX.out]; exact upTo_at F G hlt
      have f2 := hown.frozenAt
      obtain ⟨hown2, hg⟩ := hown.stored k (.int .u64 (z : Int))
      rw [HST.out] at hown2
      have hb2 := hb.trans (below_of_only hg hb.size hg1)
      go_wp2_with fail
      go_roundw
      case rel => exact ⟨k + 1, by omega, by go_num, hown2, hb2⟩
      case measure => simp [intOf]; omega
    · obtain rfl : k = n := by omega
      have g1 : ¬ ((k : Int) < (k : Int)) := by omega
      rw [upTo_rown] at hown
      go_wp2
      go_ret2
      exact ⟨_, rfl, hown, hb⟩
end Go.Proofs.YtefnagiffllhbaaGreat
