/-
  ref24.cut: vectors cut into rows.
-/
import Derived.Test.YtefnagiffllhbaaJN5
import Derived.Test.YtefnagiffllhbaaJN11
import Derived.Test.YtefnagiffllhbaaJN18
import Derived.Test.YtefnagiffllhbaaJN13
import Derived.Test.YtefnagiffllhbaaJN7
import Derived.Laws.OwnMore
import Derived.Deep.AppendLies
import Derived.Test.YtefnagiffllhbaaJN10
import Derived.Test.YtefnagiffllhbaaJN14

/- RoA -/
namespace Go.Proofs.Ytefnagiffllhbaa
open Go.RowKit

set_option maxRecDepth 100000 in
set_option maxHeartbeats 1000000 in
theorem rRoot_any (p n : Nat) (w : World) (hp : okP p = true) (hn : LenOk p n) :
    Calls Try.prog 78 #[.int .u64 p, .int .i64 (n : Int)] w fun e w' => e = .returned (.tuple #[.int .u64 (rootP p n : Int), .bool true]) ∧ Below w.heap.size w w' := by
  obtain ⟨h1, h2, ⟨j, hj⟩, h4⟩ := hn
  obtain ⟨hp1, hp2⟩ := okP_lt hp
  have HV := Lib.hid (fun w => by have := rValidP_any p w hp2; rw [hp] at this; exact this)
  have HG := Lib.hid (fun w => rGen_any p w hp)
  obtain ⟨pm, hpm⟩ : ∃ pm, pm = p - 1 := ⟨_, rfl⟩
  obtain ⟨m, hm⟩ : ∃ m, m = pm / n := ⟨_, rfl⟩
  have HP := Lib.hid (fun w => rPow_any p (rowOf p).1 m w hp (by rw [hm]; exact Nat.lt_of_le_of_lt (Nat.div_le_self _ _) (by omega)))
  have hR : rootP p n = (rowOf p).1 ^ m % p := by unfold rootP; rw [hm, hpm]
  rw [hR]
  have ep : IntKind.u64.wrap ((p : Int) - 1) = (pm : Int) := by rw [hpm]; exact wr_sub p 1 (by omega) hp2
  have en : IntKind.u64.wrap (n : Int) = (n : Int) := wr_nat _ (by omega)
  have em : IntKind.u64.wrap (m : Int) = (m : Int) := wr_nat _ (by rw [hm]; exact Nat.lt_of_le_of_lt (Nat.div_le_self _ _) (by omega))
  have r1 : (pm : Int) % (n : Int) = 0 := by rw [hpm]; omega
  have r2 : (pm : Int).tmod (n : Int) = 0 := by rw [Int.tmod_eq_emod_of_nonneg (by omega)]; exact r1
  have r3 : (pm : Int) / (n : Int) = (m : Int) := by rw [hm]; rfl
  have r4 : (pm : Int).tdiv (n : Int) = (m : Int) := by rw [hm]; rfl
  have n0 : ¬ ((n : Int) = 0) := by omega
  have n5 : ¬ (n = 0) := by omega
  have n1 : (1 : Int) ≤ (n : Int) := by omega
  have n2 : ((n : Int) == 0) = false := by rw [beq_eq_false_iff_ne]; exact n0
  have n4 : (n : Int) ≤ 4096 := by omega
  have HJ := Lib.hid hj
  clear hR hm hp1 hp2 h1 h2 hj h4 hp hpm
  generalize (rowOf p).1 = gn at *
  generalize gn ^ m % p = r at *
  go_enter Try.func78, Try.ntmps78
  go_wp2_with fail
  refine (HV.out _).mono ?_
  rintro e' w1 ⟨rfl, hb1⟩
  go_wp2_with fail
  go_loopw [6] (fun x wr => ∃ i k : Nat, x = .int .i64 (k : Int) ∧ Hid (k = 2 ^ i) ∧ 1 ≤ k ∧ k ≤ 4096 ∧ Below w.heap.size w wr) (fun x _ => (intOf x).toNat)
  case atStart => exact ⟨j, n, rfl, HJ, by omega, by omega, hb1⟩
  case round =>
    clear hb1
    obtain ⟨i, k, rfl, HK, hk1, hk2, hb⟩ := hrel
    by_cases hi : k = 1
    · subst hi
      go_upto_region 8 with fail
      refine wpGO_begin (Later) (later_moves) [] [] [0, 1, 2, 3, 4, 5, 6, 7, 8, 9, 10] (by kernel_rfl) (by kernel_rfl) ?_
      refine wpGO_start (later_moves) ?_
      intro Wc hacc
      repeat (first | (refine wpGO_skip (later_moves) rfl rfl rfl rfl (fun _ _ _ h => h) ?_ ; simp only [Act.put, List.setIfInBounds_toArray, List.set_cons_zero, List.set_cons_succ]) | (refine wpGO_light (v := ?_) (later_moves) rfl rfl rfl rfl (fun _ _ _ h => h) ?_ ?_ ; rotate_left ; (· (intro w' hR ; (first | have hcells := later_cellsD ((later_moves).trans _ _ _ hacc hR) | skip) ; go_simp ; try with_reducible rfl)) ; simp only [Act.put, List.setIfInBounds_toArray, List.set_cons_zero, List.set_cons_succ]))
      refine wpGO_call (later_moves) rfl rfl rfl rfl (fun _ _ _ h => h) (fun _ => by go_simp <;> rfl) (fun w' hR => HG.out _) ?_
      simp only [Act.put, List.setIfInBounds_toArray, List.set_cons_zero, List.set_cons_succ]
      repeat (first | (refine wpGO_skip (later_moves) rfl rfl rfl rfl (fun _ _ _ h => h) ?_ ; simp only [Act.put, List.setIfInBounds_toArray, List.set_cons_zero, List.set_cons_succ]) | (refine wpGO_light (v := ?_) (later_moves) rfl rfl rfl rfl (fun _ _ _ h => h) ?_ ?_ ; rotate_left ; (· (intro w' hR ; (first | have hcells := later_cellsD ((later_moves).trans _ _ _ hacc hR) | skip) ; go_simp ; try with_reducible rfl)) ; simp only [Act.put, List.setIfInBounds_toArray, List.set_cons_zero, List.set_cons_succ]))
      refine wpGO_call (later_moves) rfl rfl rfl rfl (fun _ _ _ h => h) (fun _ => by go_simp <;> rfl) (fun w' hR => HP.out _) ?_
      simp only [Act.put, List.setIfInBounds_toArray, List.set_cons_zero, List.set_cons_succ]
      repeat (first | (refine wpGO_skip (later_moves) rfl rfl rfl rfl (fun _ _ _ h => h) ?_ ; simp only [Act.put, List.setIfInBounds_toArray, List.set_cons_zero, List.set_cons_succ]) | (refine wpGO_light (v := ?_) (later_moves) rfl rfl rfl rfl (fun _ _ _ h => h) ?_ ?_ ; rotate_left ; (· (intro w' hR ; (first | have hcells := later_cellsD ((later_moves).trans _ _ _ hacc hR) | skip) ; go_simp ; try with_reducible rfl)) ; simp only [Act.put, List.setIfInBounds_toArray, List.set_cons_zero, List.set_cons_succ]))
      refine wpGO_done rfl ?_
      intro wd hRd
      replace hacc := (later_moves).trans _ _ _ hacc hRd
      clear hRd
      go_wp2
      go_ret2
      exact ⟨rfl, below_chain hb.drew hacc⟩
    · obtain ⟨f, hf⟩ : ∃ f, f = k / 2 := ⟨_, rfl⟩
      have hk0 : k % 2 = 0 := by
        have := HK.out
        cases i with
        | zero => omega
        | succ i => rw [this, Nat.pow_succ]; omega
      have HF : Hid (f = 2 ^ (i - 1)) := by
        have := HK.out
        cases i with
        | zero => omega
        | succ i => exact Lib.hid (by rw [hf, this, Nat.pow_succ, Nat.add_sub_cancel]; omega)
      have e1 : (k : Int) / 2 = (f : Int) := by omega
      have e2 : (k : Int).tdiv 2 = (f : Int) := by rw [Int.tdiv_eq_ediv_of_nonneg (by omega)]; exact e1
      have e3 : (k : Int) % 2 = 0 := by omega
      have e4 : (k : Int).tmod 2 = 0 := by rw [Int.tmod_eq_emod_of_nonneg (by omega)]; exact e3
      have hf1 : 1 ≤ f := by omega
      have hf2 : f < k := by omega
      clear hf hk0
      go_wp2
      go_roundw
      case rel => exact ⟨i - 1, f, rfl, HF, hf1, by omega, hb⟩
      case measure => simp [intOf]; omega
end Go.Proofs.Ytefnagiffllhbaa

/- PoB -/
namespace Go.Proofs.Ytefnagiffllhbaa
open Go.RowKit

theorem rd_less {w : World} {A : Option Addr} {n k : Nat} {l : List Nat} (h : Rd w 1 A n (U64 l)) (hk : k ≤ n) : Rd w 1 A k (U64 (l.take k)) := by
  have hl : (U64 l).length = n * 1 := h.1
  refine ⟨by rw [len_U64] at hl ⊢; simp; omega, fun h0 => ?_⟩
  obtain ⟨ad, e, hc⟩ := h.2 (by omega)
  refine ⟨ad, e, fun j u hj => hc j u ?_⟩
  have : U64 (l.take k) = (U64 l).take k := by simp [U64, List.map_take]
  rw [this, List.getElem?_take] at hj
  split at hj
  · exact hj
  · cases hj
theorem trimZ_step {L : List Nat} {j : Nat} (hj : j < L.length) (h0 : L.getD j 0 = 0) : trimZ (L.take (j + 1)) = trimZ (L.take j) := by
  rw [lw_snoc L j hj, h0, trimZ_snoc0]
theorem trimZ_stop {L : List Nat} {j : Nat} (hj : j < L.length) (h0 : L.getD j 0 ≠ 0) : trimZ (L.take (j + 1)) = L.take (j + 1) := by
  rw [lw_snoc L j hj, trimZ_snoc h0]
theorem map_snoc {l : List Nat} (f : Nat → Nat) {k : Nat} (h : k < l.length) : (l.take k).map f ++ [f (l.getD k 0)] = (l.take (k + 1)).map f := by
  rw [lw_snoc l k h, List.map_append]
  rfl

theorem addR_lt {p : Nat} (hp : 0 < p) (a b : List Nat) (i : Nat) : addR p a b i < p := Nat.mod_lt _ hp

end Go.Proofs.Ytefnagiffllhbaa

/- PoC -/
namespace Go.Proofs.Ytefnagiffllhbaa
open Go.RowKit

theorem fill_zero (n : Nat) : (fillC n fun _ => 0).toList = U64 (List.replicate n 0) := by
  simp [fillC, U64]
  exact (List.map_const' ..).trans (by rw [List.length_range])

theorem shiftP_lt {l : List Nat} {B : Nat} (hB : 0 < B) (hl : ∀ x ∈ l, x < B) (m : Nat) : ∀ x ∈ shiftP l m, x < B := fun x hx => by
  rcases List.mem_append.1 hx with h | h
  · rw [(List.mem_replicate.1 h).2]; exact hB
  · exact hl x h
theorem rwd_lt {w : World} {v : Value} {l : List Nat} (h : RWd w [v] l) : ∀ x ∈ l, x < 18446744073709551616 := by
  obtain ⟨A, n, c, -, -, -, -, h4⟩ := h
  exact h4
theorem rwd_form {w : World} {v : Value} {l : List Nat} (h : RWd w [v] l) : ∃ A c, v = .slice A l.length c := by
  obtain ⟨A, n, c, he, -, -, h3, -⟩ := id h
  simp at he
  subst he
  have := h3.len1
  rw [len_U64] at this
  subst this
  exact ⟨A, c, rfl⟩

set_option maxRecDepth 100000 in
set_option maxHeartbeats 1000000 in
theorem rEval_any (p : Nat) (A : Option Addr) (n c x : Nat) (l : List Nat) (w : World) (hp : okP p = true) (hl : RWd w [.slice A n c] l) :
    Calls Try.prog 19 #[.int .u64 p, .slice A n c, .int .u64 (x : Int)] w fun e w' => e = .returned (.int .u64 ((evalP p l x : Nat) : Int)) ∧ Below w.heap.size w w' := by
  obtain ⟨rfl, h1, h2, hlt, hrd⟩ := lw_at hl
  have gm := lw_max h1 h2
  have HM := Lib.hid (fun a b w => rMul_any p a b w hp)
  have HA := Lib.hid (fun a b w => rAdd_any p a b w hp)
  have HE := Lib.hid (show evalP p l x = evS p l (powR p x) l.length from rfl)
  rw [HE.out]
  obtain ⟨f, hf⟩ : ∃ f, f = evS p l (powR p x) := ⟨_, rfl⟩
  obtain ⟨g, hg⟩ : ∃ g, g = powR p x := ⟨_, rfl⟩
  have HF0 := Lib.hid (show f 0 = 0 by rw [hf]; rfl)
  have HF := Lib.hid (fun k => show f (k + 1) = (f k + l.getD k 0 * g k % p) % p by rw [hf, hg]; rfl)
  have HG0 := Lib.hid (show g 0 = 1 by rw [hg]; rfl)
  have HG := Lib.hid (fun k => show g (k + 1) = g k * x % p by rw [hg]; rfl)
  rw [← hf]
  clear hf hg HE hl h1 h2 hp hlt
  go_enter Try.func19, Try.ntmps19
  go_wp2_with fail
  go_loopw [7, 8, 9] (fun y z i wr => ∃ k : Nat, k ≤ l.length ∧ i = .int .i64 (k : Int) ∧ y = .int .u64 (f k : Int) ∧ z = .int .u64 (g k : Int) ∧ Below w.heap.size w wr) (fun _ _ i _ => l.length - (intOf i).toNat)
  case atStart => exact ⟨0, Nat.zero_le _, rfl, by rw [HF0.out]; rfl, by rw [HG0.out]; rfl, Below.refl _ _⟩
  case round =>
    obtain ⟨k, hk, rfl, rfl, rfl, hb⟩ := hrel
    by_cases hlt : k < l.length
    · obtain ⟨b, q, rfl, hbl, hc⟩ := lw_get (hrd.below hb) hlt
      have HF1 := Lib.hid (HF.out k)
      have HG1 := Lib.hid (HG.out k)
      generalize l.getD k 0 = y at *
      obtain ⟨z, hz⟩ : ∃ z, z = y * g k % p := ⟨_, rfl⟩
      rw [← hz] at HF1
      have HM1 := Lib.hid (fun w => by have := HM.out y (g k) w; rw [← hz] at this; exact this)
      have HM2 := Lib.hid (fun w => by have := HM.out (g k) x w; rw [← HG1.out] at this; exact this)
      have HA1 := Lib.hid (fun w => by have := HA.out (f k) z w; rw [← HF1.out] at this; exact this)
      obtain ⟨f1, hf1⟩ : ∃ f1, f1 = f (k + 1) := ⟨_, rfl⟩
      obtain ⟨g1, hg1⟩ : ∃ g1, g1 = g (k + 1) := ⟨_, rfl⟩
      rw [← hf1] at HA1
      rw [← hg1] at HM2
      have HH := Lib.hid (And.intro hf1 hg1)
      clear hz HF1 HG1 hf1 hg1
      generalize f k = fk at *
      generalize g k = gk at *
      go_wp2_with fail
      refine (HM1.out _).mono ?_
      rintro e w2 ⟨rfl, hbx⟩
      replace hb := below_chain hb hbx
      clear hbx
      go_wp2_with fail
      refine (HA1.out _).mono ?_
      rintro e w3 ⟨rfl, hbx⟩
      replace hb := below_chain hb hbx
      clear hbx
      go_wp2_with fail
      refine (HM2.out _).mono ?_
      rintro e w4 ⟨rfl, hbx⟩
      replace hb := below_chain hb hbx
      clear hbx
      go_wp2
      go_roundw
      case rel => exact ⟨k + 1, by omega, by go_num, by rw [← HH.out.1], by rw [← HH.out.2], hb⟩
      case measure => simp [intOf]; omega
    · obtain rfl : k = l.length := by omega
      go_wp2
      go_ret
      exact ⟨rfl, hb⟩
end Go.Proofs.Ytefnagiffllhbaa

/- PoD -/
namespace Go.Proofs.Ytefnagiffllhbaa
open Go.RowKit

/-- a times the powers of b. -/
def geoR (p a b : Nat) : Nat → Nat
  | 0 => a
  | k + 1 => geoR p a b k * b % p
theorem geoR_lt {p a b : Nat} (hp : 0 < p) (ha : a < p) : ∀ k, geoR p a b k < p
  | 0 => ha
  | _ + 1 => Nat.mod_lt _ hp
/-- ref04.Domain's points. -/
def domR (p s n : Nat) : Nat → Nat := geoR p (s % p) (rootP p n)
/-- ref04.Eval. -/
def hornP (p x : Nat) : List Nat → Nat
  | [] => 0
  | c :: l => (hornP p x l * x % p + c) % p
theorem hornP_lt {p : Nat} (hp : 0 < p) (x : Nat) : ∀ l, hornP p x l < p
  | [] => hp
  | _ :: _ => Nat.mod_lt _ hp
theorem hornP_drop (p x : Nat) (l : List Nat) (k : Nat) (h : k < l.length) : hornP p x (l.drop k) = (hornP p x (l.drop (k + 1)) * x % p + l.getD k 0) % p := by
  rw [List.drop_eq_getElem_cons h, hornP, List.getD_eq_getElem?_getD, List.getElem?_eq_getElem h]
  rfl

set_option maxRecDepth 100000 in
set_option maxHeartbeats 1000000 in
theorem rLength_any (p n : Nat) (w : World) (hp : okP p = true) (hn : LenOk p n) :
    Calls Try.prog 77 #[.int .u64 p, .int .i64 (n : Int)] w fun e w' => e = .returned (.bool true) ∧ Below w.heap.size w w' := by
  have HR := Lib.hid (fun w => rRoot_any p n w hp hn)
  have g1 : (n : Int) ≤ 4096 := by have := hn.le; omega
  clear hp hn
  go_enter Try.func77, Try.ntmps77
  go_wp2_with fail
  refine (HR.out _).mono ?_
  rintro e w1 ⟨rfl, hb⟩
  go_wp2
  go_ret
  exact ⟨rfl, hb⟩

set_option maxRecDepth 100000 in
set_option maxHeartbeats 1000000 in
theorem rDomain_any (p s n : Nat) (w : World) (hp : okP p = true) (hn : LenOk p n) (hs : s % p ≠ 0) :
    Calls Try.prog 38 #[.int .u64 p, .int .u64 (s : Int), .int .i64 (n : Int)] w fun e w' => ∃ v, e = .returned (.tuple #[v, .int .i64 0]) ∧ w'.ownsRow w.heap.size 22 1 v n (U64 ((List.range n).map (domR p s n))) ∧ Below w.heap.size w w' := by
  obtain ⟨hp1, hp2⟩ := okP_lt hp
  have hn4 := hn.le
  have HO := Lib.hid (fun w => by have := rValidP_any p w hp2; rw [hp] at this; exact this)
  have HR := Lib.hid (fun w => rRoot_any p n w hp hn)
  have HL := Lib.hid (fun w => rLength_any p n w hp hn)
  have HM := Lib.hid (fun a b w => rMul_any p a b w hp)
  obtain ⟨r, hr⟩ : ∃ r, r = rootP p n := ⟨_, rfl⟩
  obtain ⟨x0, hx0⟩ : ∃ x0, x0 = s % p := ⟨_, rfl⟩
  obtain ⟨f, hf⟩ : ∃ f, f = domR p s n := ⟨_, rfl⟩
  have HF0 := Lib.hid (show f 0 = x0 by rw [hf, hx0]; rfl)
  have HF := Lib.hid (fun k => show f (k + 1) = f k * r % p by rw [hf, hr]; rfl)
  have p1 : (0 : Int) < (p : Int) := by omega
  have p2 : ((p : Int) == 0) = false := by rw [beq_eq_false_iff_ne]; omega
  have p3 : ¬ (p = 0) := by omega
  have e1 : (s : Int) % (p : Int) = (x0 : Int) := by rw [hx0]; rfl
  have e2 : (s : Int).tmod (p : Int) = (x0 : Int) := by rw [hx0]; rfl
  have e3 : ((x0 : Int) == 0) = false := by rw [beq_eq_false_iff_ne]; omega
  have HS := Lib.hid (fun k => range_snoc f k)
  rw [← hr] at HR
  rw [← hf]
  clear hr hf hx0 hs hn hp hp1 hp2
  go_enter Try.func38, Try.ntmps38
  go_wp2_with fail
  refine (HO.out _).mono ?_
  rintro e w1 ⟨rfl, hb⟩
  go_wp2_with fail
  refine (HL.out _).mono ?_
  rintro e w2 ⟨rfl, hbx⟩
  replace hb := below_chain hb hbx
  clear hbx
  go_wp2_with fail
  refine (HR.out _).mono ?_
  rintro e w3 ⟨rfl, hbx⟩
  replace hb := below_chain hb hbx
  clear hbx
  go_wp2_with fail
  go_loopw [10, 11, 12] (fun y v i wr => ∃ k : Nat, k ≤ n ∧ i = .int .i64 (k : Int) ∧ y = .int .u64 (f k : Int) ∧ wr.ownsRow w.heap.size 22 1 v k (U64 ((List.range k).map f)) ∧ Below w.heap.size w wr) (fun _ _ i _ => n - (intOf i).toNat)
  case atStart => exact ⟨0, Nat.zero_le _, rfl, by rw [HF0.out], ⟨rfl, .inl ⟨rfl, rfl⟩⟩, hb⟩
  case round =>
    clear hb
    obtain ⟨k, hk, rfl, rfl, hown, hb⟩ := hrel
    by_cases hlt : k < n
    · have g1 : (k : Int) < (n : Int) := by omega
      have HS1 := Lib.hid (HS.out k)
      have HF1 := Lib.hid (HF.out k)
      obtain ⟨y, hy⟩ : ∃ y, y = f (k + 1) := ⟨_, rfl⟩
      have HY := Lib.hid hy
      obtain ⟨z, hz⟩ : ∃ z, z = f k := ⟨_, rfl⟩
      rw [← hy, ← hz] at HF1
      rw [← hz] at HS1 ⊢
      have HM1 := Lib.hid (fun w => by have := HM.out z r w; rw [← HF1.out] at this; exact this)
      clear hy hz HF1
      go_wp2_with (at_builtin; refine wpl_append rfl _ _ rfl el_w rfl (hown.alloc _) rfl (rd_one _ _ _) (one_U64 [z]) (by omega) (by simp; have := hb.size; omega) ?_)
      intro v' wn hown' hgrow hblk
      have hal := (Below.refl wr.heap.size wr).alloc (Nat.le_refl _) (.cells #[.int .u64 (z : Int)] 22)
      have hB := lw_grow (hown.alloc _) hgrow (by simp; have := hb.size; omega)
      replace hb := (below_on hb hal hb.size).trans hB
      replace hown : wn.ownsRow w.heap.size 22 1 v' (k + 1) (U64 ((List.range (k + 1)).map f)) := lw_app (b := [z]) hown' HS1.out
      clear hown' hgrow hblk hal hB
      go_wp2_with fail
      refine (HM1.out _).mono ?_
      rintro e w4 ⟨rfl, hbx⟩
      replace hb := below_chain hb hbx
      replace hown := own_below hown hbx (Nat.le_refl _)
      clear hbx
      go_wp2
      go_roundw
      case rel => exact ⟨k + 1, by omega, by go_num, by rw [HY.out], hown, hb⟩
      case measure => simp [intOf]; omega
    · obtain rfl : k = n := by omega
      have g1 : ¬ ((k : Int) < (k : Int)) := by omega
      go_wp2
      go_ret2
      exact ⟨_, rfl, hown, hb⟩

theorem upTo_row {n i v : Nat} {F G : Nat → Nat} (h : v = F i) : (U64 ((List.range n).map (upTo F G i))).set i (.int .u64 (v : Int)) = U64 ((List.range n).map (upTo F G (i + 1))) := by
  have := upTo_set (n := n) (G := G) h
  rw [fill_U64, fill_U64] at this
  have h2 := congrArg Array.toList this
  simpa using h2
theorem upTo_row0 (n : Nat) (F G : Nat → Nat) : (List.range n).map (upTo F G 0) = (List.range n).map G := List.map_congr_left fun i _ => by simp [upTo]
theorem upTo_rown (n : Nat) (F G : Nat → Nat) : (List.range n).map (upTo F G n) = (List.range n).map F := List.map_congr_left fun i hi => by simp [upTo, List.mem_range.1 hi]
theorem upTo_at {n i : Nat} (F G : Nat → Nat) (h : i < n) : (U64 ((List.range n).map (upTo F G i)))[i]? = some (.int .u64 (G i : Int)) := by simp [U64, upTo, h]

end Go.Proofs.Ytefnagiffllhbaa

/- PoE -/
namespace Go.Proofs.Ytefnagiffllhbaa
open Go.RowKit

/-- ref04.Interpolate's coefficients. -/
def intE (p : Nat) (l : List Nat) (i : Nat) : Nat := hornP p (domR p 1 l.length i) l
def intR (p : Nat) (l : List Nat) (s i : Nat) : Nat := intE p l ((l.length - i) % l.length) * geoR p (l.length ^ (p - 2) % p) ((s % p) ^ (p - 2) % p) i % p

end Go.Proofs.Ytefnagiffllhbaa

/- PoF -/
namespace Go.Proofs.Ytefnagiffllhbaa
open Go.RowKit

def zeroF (p b i : Nat) : Nat := if i = 0 then p - 1 else if i = b then 1 else 0
def zeroP (p b : Nat) : List Nat := (List.range (b + 1)).map (zeroF p b)
theorem zeroF_set {p b : Nat} (hb : 0 < b) : ((fillC (b + 1) fun _ => 0).setIfInBounds 0 (.int .u64 ((p - 1 : Nat) : Int))).setIfInBounds b (.int .u64 ((1 : Nat) : Int)) = fillC (b + 1) (zeroF p b) := by
  rw [fill_set, fill_set]
  refine fill_same fun i hi => ?_
  simp only [putF, zeroF]
  by_cases h : i = b
  · subst h; simp; omega
  · rw [if_neg h]
    by_cases h0 : i = 0
    · simp [h0]
    · simp [h0, h]
theorem zeroF_lt {p b : Nat} (hp : 1 < p) (i : Nat) : zeroF p b i < p := by
  unfold zeroF
  split
  · omega
  · split <;> omega

end Go.Proofs.Ytefnagiffllhbaa

/- PoG -/
namespace Go.Proofs.Ytefnagiffllhbaa
open Go.RowKit

/-- ref25.Row. -/
def rowR (L : LayR) (msg masks : List Nat) : List Nat := padP (addP L.p ((List.range msg.length).map (intR L.p msg 1)) (mulP L.p (zeroP L.p L.block) masks)) L.k
/-- ref25.Quad. -/
def quadR (L : LayR) (q : List Nat) : List Nat := padP (mulP L.p (zeroP L.p L.block) q) (2 * L.k - 1)
theorem zeroP_len (p b : Nat) : (zeroP p b).length = b + 1 := by simp [zeroP]
theorem intR_lt {p : Nat} (hp : 0 < p) (l : List Nat) (s i : Nat) : intR p l s i < p := Nat.mod_lt _ hp

set_option maxRecDepth 100000 in
set_option maxHeartbeats 1000000 in
theorem rPoints_any (L : LayR) (w : World) (hL : LayOk L) :
    Calls Try.prog 18 #[.agg (layCs L)] w fun e w' => ∃ v1 v2, e = .returned (.tuple #[v1, v2]) ∧ RWd w' [v1] ((List.range L.block).map (domR L.p 1 L.block)) ∧ RWd w' [v2] ((List.range L.n).map (domR L.p (rowOf L.p).1 L.n)) ∧ Below w.heap.size w w' := by
  obtain ⟨hp1, hp2⟩ := okP_lt hL.p
  obtain ⟨hlen, -⟩ := layLen hL
  obtain ⟨hlenN, -⟩ := layLenN hL
  have hgl := gen_lt hL.p
  have H1 := Lib.hid (fun w => rDomain_any L.p 1 L.block w hL.p hlen (by rw [Nat.mod_eq_of_lt (by omega)]; decide))
  have H2 := Lib.hid (fun w => rDomain_any L.p (rowOf L.p).1 L.n w hL.p hlenN (gen_mod hL.p))
  have HG := Lib.hid (fun w => rGen_any L.p w hL.p)
  have HL1 := Lib.hid (show ∀ s n, ∀ x ∈ (List.range n).map (domR L.p s n), x < 18446744073709551616 from fun s n x hx => by
    obtain ⟨i, -, rfl⟩ := List.mem_map.1 hx
    exact Nat.lt_trans (geoR_lt (by omega) (Nat.mod_lt _ (by omega)) i) hp2)
  generalize (rowOf L.p).1 = gn at *
  clear hL hp1 hp2 hlen hlenN hgl
  unfold layCs at *
  have kl := Blk.new w 33 #[.int .u64 (L.p : Int), .int .i64 (L.block : Int), .int .i64 (L.queries : Int), .int .i64 (L.k : Int), .int .i64 (L.n : Int), .int .i64 (L.secret : Int), .int .i64 (L.rows : Int), .int .i64 (L.a : Int), .int .i64 (L.b : Int), .int .i64 (L.b : Int), .int .i64 (L.b : Int)]
  have hb0 : Below w.heap.size w (w.alloc (.cells #[.int .u64 (L.p : Int), .int .i64 (L.block : Int), .int .i64 (L.queries : Int), .int .i64 (L.k : Int), .int .i64 (L.n : Int), .int .i64 (L.secret : Int), .int .i64 (L.rows : Int), .int .i64 (L.a : Int), .int .i64 (L.b : Int), .int .i64 (L.b : Int), .int .i64 (L.b : Int)] 33)) := (Below.refl _ _).alloc (Nat.le_refl _) _
  go_enter Try.func18, Try.ntmps18
  go_wp2_with fail
  generalize w.alloc _ = w1 at kl hb0 ⊢
  refine (H1.out _).mono ?_
  rintro e w2 ⟨v1, rfl, hown, hbx⟩
  replace kl := kl.below hbx kl.lt
  replace hb0 := below_chain hb0 hbx
  clear hbx
  obtain ⟨A1, c1, rfl, -⟩ := own_form hown
  have hI := lw_own hown (HL1.out _ _)
  clear hown
  have cl := kl.cell
  have ll := kl.lt
  go_upto_region 2 with fail
  refine wpO_begin (Later) [4, 7] [0, 1, 2, 3, 5, 6, 4, 7, 8, 9, 10, 11, 12] (by kernel_rfl) (by kernel_rfl) ?_
  refine wpO_startK (later_moves) ?_
  intro Wc HWc hacc
  have hbW : Below w2.heap.size w2 Wc := by rw [HWc.out]; exact (Below.refl _ _).drew
  replace hb0 := below_chain hb0 hbW
  replace hI := kept_RWd _ _ _ _ hbW hI
  repeat (first | (refine wpO_skip (later_moves) rfl rfl (fun _ _ _ h => h) ?_ ; simp only [Act.put, List.setIfInBounds_toArray, List.set_cons_zero, List.set_cons_succ]) | (refine wpO_light (v := ?_) (later_moves) rfl rfl (fun _ _ _ h => h) ?_ ?_ ; rotate_left ; (· (intro w' hR ; (first | have hcells := later_cellsD ((later_moves).trans _ _ _ hacc hR) | skip) ; go_simp ; try with_reducible rfl)) ; simp only [Act.put, List.setIfInBounds_toArray, List.set_cons_zero, List.set_cons_succ]))
  refine wpO_call (later_moves) rfl rfl rfl (fun _ => by go_simp <;> rfl) ((HG.out _).mono ?_)
  rintro e w3 ⟨rfl, hb3⟩
  refine ⟨_, rfl, hb3, ?_⟩
  replace hacc := (later_moves).trans _ _ _ hacc (hb3)
  simp only [Act.put, List.setIfInBounds_toArray, List.set_cons_zero, List.set_cons_succ]
  replace hb0 := below_chain hb0 hb3
  replace hI := kept_RWd _ _ _ _ hb3 hI
  repeat (first | (refine wpO_skip (later_moves) rfl rfl (fun _ _ _ h => h) ?_ ; simp only [Act.put, List.setIfInBounds_toArray, List.set_cons_zero, List.set_cons_succ]) | (refine wpO_light (v := ?_) (later_moves) rfl rfl (fun _ _ _ h => h) ?_ ?_ ; rotate_left ; (· (intro w' hR ; (first | have hcells := later_cellsD ((later_moves).trans _ _ _ hacc hR) | skip) ; go_simp ; try with_reducible rfl)) ; simp only [Act.put, List.setIfInBounds_toArray, List.set_cons_zero, List.set_cons_succ]))
  refine wpO_call (later_moves) rfl rfl rfl (fun _ => by go_simp <;> rfl) ((H2.out _).mono ?_)
  rintro e w4 ⟨v4, rfl, hown, hb4⟩
  refine ⟨_, rfl, hb4, ?_⟩
  replace hacc := (later_moves).trans _ _ _ hacc (hb4)
  simp only [Act.put, List.setIfInBounds_toArray, List.set_cons_zero, List.set_cons_succ]
  replace hb0 := below_chain hb0 hb4
  replace hI := kept_RWd _ _ _ _ hb4 hI
  obtain ⟨A4, c4, rfl, -⟩ := own_form hown
  have hM := lw_own hown (HL1.out _ _)
  clear hown
  repeat (first | (refine wpO_skip (later_moves) rfl rfl (fun _ _ _ h => h) ?_ ; simp only [Act.put, List.setIfInBounds_toArray, List.set_cons_zero, List.set_cons_succ]) | (refine wpO_light (v := ?_) (later_moves) rfl rfl (fun _ _ _ h => h) ?_ ?_ ; rotate_left ; (· (intro w' hR ; (first | have hcells := later_cellsD ((later_moves).trans _ _ _ hacc hR) | skip) ; go_simp ; try with_reducible rfl)) ; simp only [Act.put, List.setIfInBounds_toArray, List.set_cons_zero, List.set_cons_succ]))
  refine wpO_done ?_
  go_wp2
  go_ret2
  exact ⟨_, _, rfl, hI, hM, hb0⟩
end Go.Proofs.Ytefnagiffllhbaa

/- PoH -/
namespace Go.Proofs.Ytefnagiffllhbaa
open Go.RowKit

end Go.Proofs.Ytefnagiffllhbaa

/- PoI -/
namespace Go.Proofs.Ytefnagiffllhbaa
open Go.RowKit

/-- One of four. -/
def sel4 {α : Type} (a b c d : α) (i : Nat) : α := if i = 0 then a else if i = 1 then b else if i = 2 then c else d
theorem sel4_get {α : Type} (a b c d : α) {i : Nat} (h : i < 4) : (#[a, b, c, d] : Array α)[i]? = some (sel4 a b c d i) := by
  rcases (show i = 0 ∨ i = 1 ∨ i = 2 ∨ i = 3 by omega) with rfl | rfl | rfl | rfl <;> rfl
theorem lay_part (L : LayR) {i : Nat} (h : i < 4) : (#[.int .u64 (L.p : Int), .int .i64 (L.block : Int), .int .i64 (L.queries : Int), .int .i64 (L.k : Int), .int .i64 (L.n : Int), .int .i64 (L.secret : Int), .int .i64 (L.rows : Int), .int .i64 (L.a : Int), .int .i64 (L.b : Int), .int .i64 (L.b : Int), .int .i64 (L.b : Int)] : Array Value)[7 + i]? = some (.int .i64 ((sel4 L.a L.b L.b L.b i : Nat) : Int)) := by
  rcases (show i = 0 ∨ i = 1 ∨ i = 2 ∨ i = 3 by omega) with rfl | rfl | rfl | rfl <;> rfl
def cutRow (B : Nat) (v : List Nat) (k : Nat) : List Nat := (List.range B).map fun j => v.getD (k * B + j) 0
def cutV (B : Nat) (v : List Nat) (n : Nat) : List (List Nat) := (List.range n).map (cutRow B v)
def cutPre (B : Nat) (l : Nat → List Nat) (ps : Nat → Nat) (i : Nat) : List (List Nat) := (List.range i).flatMap fun i => cutV B (l i) (ps i)
/-- ref24.cut. -/
def cutL (B : Nat) (l : Nat → List Nat) (ps : Nat → Nat) : List (List Nat) := cutPre B l ps 4
theorem cutPre_next (B : Nat) (l : Nat → List Nat) (ps : Nat → Nat) (i : Nat) : cutPre B l ps (i + 1) = cutPre B l ps i ++ cutV B (l i) (ps i) := by
  rw [cutPre, List.range_succ, List.flatMap_append]
  simp [cutPre]
theorem cutV_next (B : Nat) (v : List Nat) (k : Nat) : cutV B v (k + 1) = cutV B v k ++ [cutRow B v k] := by simp [cutV, List.range_succ]
theorem upTo_stop {n j : Nat} {F : Nat → Nat} (h : ∀ i, j ≤ i → i < n → F i = 0) : fillC n (upTo F (fun _ => 0) j) = fillC n F := fill_same fun i hi => by
  unfold upTo
  split
  · rfl
  · exact (h i (by omega) hi).symm

set_option maxRecDepth 100000 in
set_option maxHeartbeats 2000000 in
theorem rCut_any (L : LayR) (v0 v1 v2 v3 : Value) (l0 l1 l2 l3 : List Nat) (w : World) (hL : LayOk L) (hv : ∀ i, i < 4 → RWd w [sel4 v0 v1 v2 v3 i] (sel4 l0 l1 l2 l3 i)) :
    Calls Try.prog 68 #[.agg (layCs L), .agg #[v0, v1, v2, v3]] w fun e w' => ∃ v, e = .returned v ∧ RRows w' [v] (cutL L.block (sel4 l0 l1 l2 l3) (sel4 L.a L.b L.b L.b)) ∧ Below w.heap.size w w' := by
  have hb1 := hL.b1
  have hb2 := hL.b2
  have HPS := Lib.hid (show ∀ i, sel4 L.a L.b L.b L.b i ≤ 100000 from fun i => by
    have := hL.a
    have := hL.b
    unfold sel4
    repeat' split
    all_goals omega)
  have HLP := Lib.hid (fun i (h : i < 4) => lay_part L h)
  have HV := Lib.hid hv
  have HG := Lib.hid (fun i (h : i < 4) => sel4_get v0 v1 v2 v3 h)
  obtain ⟨l, hl⟩ : ∃ l, l = sel4 l0 l1 l2 l3 := ⟨_, rfl⟩
  obtain ⟨ps, hps⟩ : ∃ ps, ps = sel4 L.a L.b L.b L.b := ⟨_, rfl⟩
  have HCL := Lib.hid (show cutL L.block (sel4 l0 l1 l2 l3) (sel4 L.a L.b L.b L.b) = cutPre L.block l ps 4 by rw [hl, hps]; rfl)
  rw [HCL.out]
  rw [← hl] at HV
  rw [← hps] at HPS HLP
  have HP0 := Lib.hid (show cutPre L.block l ps 0 = [] from rfl)
  have HPN := Lib.hid (cutPre_next L.block l ps)
  have mk := mk_words L.block (by omega)
  clear hv hl hps HCL hL
  unfold layCs at *
  obtain ⟨kl, kv, hb0, hsz⟩ := boxes2 w 33 109 #[.int .u64 (L.p : Int), .int .i64 (L.block : Int), .int .i64 (L.queries : Int), .int .i64 (L.k : Int), .int .i64 (L.n : Int), .int .i64 (L.secret : Int), .int .i64 (L.rows : Int), .int .i64 (L.a : Int), .int .i64 (L.b : Int), .int .i64 (L.b : Int), .int .i64 (L.b : Int)] #[v0, v1, v2, v3]
  go_enter Try.func68, Try.ntmps68
  go_upto_region 1 with fail
  generalize (w.alloc _).alloc _ = w1 at kl kv hb0 hsz ⊢
  obtain ⟨N, hN⟩ : ∃ N, N = w1.heap.size := ⟨_, rfl⟩
  have hN1 : w.heap.size + 1 < N := by omega
  have hN2 : N ≤ w1.heap.size := by omega
  clear hsz hN
  obtain ⟨LC, hLC⟩ : ∃ LC : Array Value, LC = #[.int .u64 (L.p : Int), .int .i64 (L.block : Int), .int .i64 (L.queries : Int), .int .i64 (L.k : Int), .int .i64 (L.n : Int), .int .i64 (L.secret : Int), .int .i64 (L.rows : Int), .int .i64 (L.a : Int), .int .i64 (L.b : Int), .int .i64 (L.b : Int), .int .i64 (L.b : Int)] := ⟨_, rfl⟩
  have HL1 := Lib.hid (show LC[1]? = some (.int .i64 (L.block : Int)) by rw [hLC]; rfl)
  have HL7 := Lib.hid (show ∀ i, i < 4 → LC[7 + i]? = some (.int .i64 (ps i : Int)) from fun i h => by rw [hLC]; exact HLP.out i h)
  rw [← hLC] at kl
  clear hLC HLP
  obtain ⟨VC, hVC⟩ : ∃ VC : Array Value, VC = #[v0, v1, v2, v3] := ⟨_, rfl⟩
  have HVC := Lib.hid (show ∀ i, i < 4 → VC[i]? = some (sel4 v0 v1 v2 v3 i) from fun i h => by rw [hVC]; exact HG.out i h)
  rw [← hVC] at kv
  clear hVC HG
  generalize hBL : L.block = B at *
  have HBL := Lib.hid hBL
  clear hBL
  have g1 : (0 : Int) < (B : Int) := by omega
  have g2 : (B : Int) ≤ 256 := by omega
  go_wp2_with fail
  go_loopw [5, 6] (fun u y wr => ∃ (i n : Nat) (v : Value) (cs : List Value), v = u ∧ i ≤ 4 ∧ y = .int .i64 (i : Int) ∧ n ≤ i * 100000 ∧ Blk wr w.heap.size 33 LC ∧ Blk wr (w.heap.size + 1) 109 VC ∧ wr.ownsRow N 28 1 v n cs ∧ GRows N wr v cs (cutPre B l ps i) ∧ Below w.heap.size w wr ∧ N ≤ wr.heap.size) (fun _ y _ => 4 - (intOf y).toNat)
  case atStart => exact ⟨0, 0, _, [], rfl, by omega, rfl, by omega, kl, kv, ⟨rfl, .inl ⟨rfl, rfl⟩⟩, by rw [HP0.out]; exact grows_nil _ _ _, hb0, hN2⟩
  case round =>
    clear kl kv hb0 hN2
    obtain ⟨i, n0, v, cs, rfl, hi, rfl, hn0, kl, kv, hown, hgr, hb0, hN2⟩ := hrel
    by_cases hlt : i < 4
    · have q1 : (i : Int) < 4 := by omega
      have hvi := HV.out i hlt
      have hps := HPS.out i
      obtain ⟨p, hp⟩ : ∃ p, p = ps i := ⟨_, rfl⟩
      have HL7i := Lib.hid (HL7.out i hlt)
      have HVCi := Lib.hid (HVC.out i hlt)
      have HPNi := Lib.hid (HPN.out i)
      obtain ⟨li, hli⟩ : ∃ li, li = l i := ⟨_, rfl⟩
      obtain ⟨si, hsi⟩ : ∃ si, si = sel4 v0 v1 v2 v3 i := ⟨_, rfl⟩
      rw [← hsi] at hvi HVCi
      rw [← hli] at hvi HPNi
      rw [← hp] at hps HL7i HPNi
      clear hp hli hsi
      obtain ⟨Ai, ci, rfl⟩ := rwd_form hvi
      obtain ⟨-, hx1, hx2, hltl, -⟩ := lw_at hvi
      have gli := lw_max hx1 hx2
      obtain ⟨P0, hP0⟩ : ∃ P0, P0 = cutPre B l ps i := ⟨_, rfl⟩
      rw [← hP0] at hgr HPNi
      have HV0 := Lib.hid (show P0 ++ cutV B li 0 = P0 by simp [cutV])
      have HVN := Lib.hid (show ∀ k, (P0 ++ cutV B li k) ++ [cutRow B li k] = P0 ++ cutV B li (k + 1) from fun k => by rw [cutV_next, List.append_assoc])
      have HVI := Lib.hid hvi
      have HLTL := Lib.hid hltl
      have HX := Lib.hid hx2
      clear hP0 hvi hltl hx1 hx2
      go_wp2_with fail
      go_loopw [5, 7] (fun u y wr => ∃ (k n : Nat) (v : Value) (cs : List Value), v = u ∧ k ≤ p ∧ y = .int .i64 (k : Int) ∧ n ≤ i * 100000 + k ∧ Blk wr w.heap.size 33 LC ∧ Blk wr (w.heap.size + 1) 109 VC ∧ wr.ownsRow N 28 1 v n cs ∧ GRows N wr v cs (P0 ++ cutV B li k) ∧ Below w.heap.size w wr ∧ N ≤ wr.heap.size) (fun _ y _ => p - (intOf y).toNat)
      case atStart => exact ⟨0, n0, _, cs, rfl, Nat.zero_le _, rfl, by rw [Nat.add_zero]; exact hn0, kl, kv, hown, by rw [HV0.out]; exact hgr, hb0, hN2⟩
      case round =>
        clear kl kv hb0 hN2 hown hgr hn0
        obtain ⟨k, n1, v, cs, rfl, hk, rfl, hn1, kl, kv, hown, hgr, hb0, hN2⟩ := hrel
        have c7 := kl.cell (7 + i)
        rw [HL7i.out] at c7
        have c1 := kl.cell 1
        rw [HL1.out] at c1
        by_cases hltk : k < p
        · have q2 : (k : Int) < (p : Int) := by omega
          obtain ⟨wo, hwo⟩ : ∃ wo, wo = wr := ⟨_, rfl⟩
          subst hwo
          have HVN1 := Lib.hid (HVN.out k)
          go_wp2_with fail
          have kg := Blk.new wo 22 (fillC B fun _ => 0)
          have hbi := (Below.refl wo.heap.size wo).alloc (Nat.le_refl _) (.cells (fillC B fun _ => 0) 22)
          have hvb : ∀ q, v.ownBlock = some q → q < wo.heap.size := fun q e => (hown.lt q e).2
          have hgN : N ≤ wo.heap.size := hN2
          clear c7 c1
          generalize wo.alloc _ = w2 at kg hbi ⊢
          obtain ⟨F, hF⟩ : ∃ F : Nat → Nat, F = fun j => li.getD (k * B + j) 0 := ⟨_, rfl⟩
          have HF := Lib.hid (show ∀ j, F j = li.getD (k * B + j) 0 from fun j => by rw [hF])
          have HCR := Lib.hid (show (List.range B).map F = cutRow B li k by rw [hF]; rfl)
          obtain ⟨kb, hkb⟩ : ∃ kb, kb = k * B := ⟨_, rfl⟩
          rw [← hkb] at HF
          have hkb2 : kb ≤ 100000 * 256 := by rw [hkb]; exact Nat.mul_le_mul (by omega) hb2
          have ek : (k : Int) * (B : Int) = (kb : Int) := by rw [hkb]; exact (Int.natCast_mul _ _).symm
          have ek2 : IntKind.i64.wrap (kb : Int) = (kb : Int) := wr_i64 _ (by omega) (by omega)
          have H0 := Lib.hid (upTo_zero B F fun _ => 0)
          have HFL := Lib.hid (show ∀ j, F j < 18446744073709551616 from fun j => by
            rw [HF.out, List.getD_eq_getElem?_getD]
            cases h : li[kb + j]? with
            | none => decide
            | some x => exact HLTL.out x (List.mem_of_getElem? h))
          clear hF hkb
          go_loopw [9] (fun y wr => ∃ j : Nat, j ≤ B ∧ y = .int .i64 (j : Int) ∧ Blk wr wo.heap.size 22 (fillC B (upTo F (fun _ => 0) j)) ∧ Below wo.heap.size wo wr) (fun y _ => B - (intOf y).toNat)
          case atStart => exact ⟨0, by omega, rfl, by rw [H0.out]; exact kg, hbi⟩
          case round =>
            clear kg hbi
            obtain ⟨j, hj, rfl, kg, hbi⟩ := hrel
            obtain ⟨t, ht⟩ : ∃ t, t = kb + j := ⟨_, rfl⟩
            have et : (kb : Int) + (j : Int) = (t : Int) := by omega
            have et2 : IntKind.i64.wrap (t : Int) = (t : Int) := wr_i64 _ (by omega) (by omega)
            have HT := Lib.hid ht
            have c1 := (kl.below hbi kl.lt).cell 1
            rw [HL1.out] at c1
            have ci := (kv.below hbi kv.lt).cell i
            rw [HVCi.out] at ci
            have lk := (kl.below hbi kl.lt).lt
            have lv := (kv.below hbi kv.lt).lt
            have lg := kg.lt
            have q9 : (0 : Int) ≤ (j : Int) := by omega
            have q8 : (0 : Int) ≤ (i : Int) := by omega
            clear ht
            by_cases hj1 : j < B
            · have q3 : (j : Int) < (B : Int) := by omega
              have d3 : decide ((j : Int) < (B : Int)) = true := decide_eq_true q3
              by_cases hj2 : t < li.length
              · have q4 : (t : Int) < (li.length : Int) := by omega
                have q5 : (0 : Int) ≤ (t : Int) := by omega
                have d4 : decide ((t : Int) < (li.length : Int)) = true := decide_eq_true q4
                have hbr := below_chain hb0 hbi
                obtain ⟨b, q, rfl, hbl, hc⟩ := lw_get ((lw_at HVI.out).2.2.2.2.below hbr) hj2
                have HZ := Lib.hid (show li.getD t 0 = F j by rw [HF.out, HT.out])
                rw [HZ.out] at hc
                obtain ⟨z, hz⟩ : ∃ z, z = F j := ⟨_, rfl⟩
                have HST := Lib.hid (upTo_set (n := B) (G := fun _ => 0) hz)
                rw [← hz] at hc
                clear hz HZ hbr
                go_upto_region 10 with fail
                refine wpO_begin (Later) [] [0, 1, 2, 3, 4, 5, 6, 7, 8, 9, 10, 11, 12, 13, 14, 15, 16] (by kernel_rfl) (by kernel_rfl) ?_
                refine wpO_startK (later_moves) ?_
                intro Wc HWc hacc
                have hbW : Below wr.heap.size wr Wc := by rw [HWc.out]; exact (Below.refl _ _).drew
                repeat (first | (refine wpO_skip (later_moves) rfl rfl (fun _ _ _ h => h) ?_ ; simp only [Act.put, List.setIfInBounds_toArray, List.set_cons_zero, List.set_cons_succ]) | (refine wpO_light (v := ?_) (later_moves) rfl rfl (fun _ _ _ h => h) ?_ ?_ ; rotate_left ; (· (intro w' hR ; (first | have hcells := later_cellsD ((later_moves).trans _ _ _ hacc hR) | skip) ; go_simp ; try with_reducible rfl)) ; simp only [Act.put, List.setIfInBounds_toArray, List.set_cons_zero, List.set_cons_succ]))
                refine wpO_done ?_
                replace kg := kg.below hbW kg.lt
                replace hbi := below_chain hbi hbW
                have hc3 := (hbW.cell (p := ⟨b, q + t, none⟩) hbl).trans hc
                replace hbl := Nat.lt_of_lt_of_le hbl hbW.size
                clear c1 ci lk lv lg hacc hc
                generalize Wc = w3 at kg hbi hc3 hbl ⊢
                have c1 := (kl.below hbi kl.lt).cell 1
                rw [HL1.out] at c1
                have ci := (kv.below hbi kv.lt).cell i
                rw [HVCi.out] at ci
                have lk := (kl.below hbi kl.lt).lt
                have lv := (kv.below hbi kv.lt).lt
                have lg := kg.lt
                have cg := kg.cell j
                rw [upTo_get _ _ hj1] at cg
                go_upto_region 12 with fail
                refine wpGO_begin (Later) (later_moves) [14] [14] [0, 1, 2, 3, 4, 5, 6, 7, 8, 9, 10, 11, 12, 13, 14] (by kernel_rfl) (by kernel_rfl) ?_
                refine wpGO_start (later_moves) ?_
                intro Wc hacc
                repeat (first | (refine wpGO_skip (later_moves) rfl rfl rfl rfl (fun _ _ _ h => h) ?_ ; simp only [Act.put, List.setIfInBounds_toArray, List.set_cons_zero, List.set_cons_succ]) | (refine wpGO_light (v := ?_) (later_moves) rfl rfl rfl rfl (fun _ _ _ h => h) ?_ ?_ ; rotate_left ; (· (intro w' hR ; (first | have hcells := later_cellsD ((later_moves).trans _ _ _ hacc hR) | skip) ; go_simp ; try with_reducible rfl)) ; simp only [Act.put, List.setIfInBounds_toArray, List.set_cons_zero, List.set_cons_succ]) | (refine wpGO_free (v := ?_) rfl rfl rfl rfl (fun _ _ _ h => h) ?_ ?_ ; rotate_left ; (· (intro w' ; go_simp ; try with_reducible rfl)) ; simp only [Act.put, List.setIfInBounds_toArray, List.set_cons_zero, List.set_cons_succ]))
                refine wpGO_heavy rfl rfl rfl rfl ?_
                intro wh hRh
                replace hacc := (later_moves).trans _ _ _ hacc hRh
                have hxd := below_chain (Below.refl w3.heap.size w3).drew hacc
                replace kg := kg.below hxd kg.lt
                replace hbi := below_chain hbi hxd
                clear hxd hacc hRh lk lv lg c1 ci cg hc3 hbl
                have c2 := kg.cell j
                rw [upTo_get _ _ hj1] at c2
                have f2 := kg.frozen
                go_simp
                refine ⟨fun h => Bool.noConfusion h, ?_⟩
                have hg := set_only (w := wh) wo.heap.size j (.int .u64 (z : Int))
                replace kg := kg.set_ j (.int .u64 (z : Int))
                rw [HST.out] at kg
                replace hbi := hbi.trans (below_of_only hg hbi.size (Nat.le_refl _))
                clear hg f2 c2
                generalize wh.setCell _ _ = we at kg hbi ⊢
                refine wpGO_doneP rfl ?_
                go_wp2_with fail
                go_roundw
                case rel => exact ⟨j + 1, by omega, by go_num, kg, hbi⟩
                case measure => simp [intOf]; omega
              · have d4 : decide ((t : Int) < (li.length : Int)) = false := decide_eq_false (by omega)
                have HST := Lib.hid (show fillC B (upTo F (fun _ => 0) j) = fillC B F from upTo_stop fun x h1 _ => by
                  rw [HF.out, getD_out]
                  have := HT.out
                  omega)
                go_upto_region 10 with fail
                refine wpO_begin (Later) [] [0, 1, 2, 3, 4, 5, 6, 7, 8, 9, 10, 11, 12, 13, 14, 15, 16] (by kernel_rfl) (by kernel_rfl) ?_
                refine wpO_startK (later_moves) ?_
                intro Wc HWc hacc
                have hbW : Below wr.heap.size wr Wc := by rw [HWc.out]; exact (Below.refl _ _).drew
                repeat (first | (refine wpO_skip (later_moves) rfl rfl (fun _ _ _ h => h) ?_ ; simp only [Act.put, List.setIfInBounds_toArray, List.set_cons_zero, List.set_cons_succ]) | (refine wpO_light (v := ?_) (later_moves) rfl rfl (fun _ _ _ h => h) ?_ ?_ ; rotate_left ; (· (intro w' hR ; (first | have hcells := later_cellsD ((later_moves).trans _ _ _ hacc hR) | skip) ; go_simp ; try with_reducible rfl)) ; simp only [Act.put, List.setIfInBounds_toArray, List.set_cons_zero, List.set_cons_succ]))
                refine wpO_done ?_
                replace kg := kg.below hbW kg.lt
                replace hbi := below_chain hbi hbW
                clear c1 ci lk lv lg hacc
                generalize Wc = w3 at kg hbi ⊢
                rw [HST.out] at kg
                replace kl := kl.below hbi kl.lt
                replace kv := kv.below hbi kv.lt
                replace hb0 := below_chain hb0 hbi
                replace hN2 := Nat.le_trans hN2 hbi.size
                replace hown := own_below hown hbi (Nat.le_refl _)
                replace hgr := grows_below hgr hbi
                have hx := rwx_fill (N := N) (gb := v.ownBlock) kg (fun j _ => HFL.out j) (by simp [maxLen]; omega) hgN (fun e => by have := hvb _ e.symm; omega)
                rw [HCR.out] at hx
                clear kg
                go_wp2_with (at_builtin; refine wpl_append rfl _ _ rfl el_ww rfl (hown.alloc _) rfl (rd_one _ _ _) (by intro u hu; simp at hu; subst hu; rfl) (by omega) (by simp; omega) ?_)
                intro v' wn hown' hgrow hblk
                have hal := (Below.refl w3.heap.size w3).alloc (Nat.le_refl _) (.cells #[.slice (some ⟨wo.heap.size, 0, none⟩) B B] 28)
                replace hgr := grows_below hgr hal
                replace hx := rwx_keep hx hal.size (fun b _ h2 _ => hal.block b h2)
                have hgn := grows_app hgr hx hgrow (by simpa using hblk)
                rw [HVN1.out] at hgn
                have hBx := lw_grow (hown.alloc _) hgrow (by simp; omega)
                have hNw : w.heap.size ≤ N := by omega
                have hvN : ∀ q, v.ownBlock = some q → N ≤ q := fun q e => (hown.lt q e).1
                replace kl := kl.below hal kl.lt
                replace kv := kv.below hal kv.lt
                replace hb0 := below_chain hb0 hal
                replace hN2 := Nat.le_trans hN2 hal.size
                replace kl := kl.grown hgrow (fun e => by first | (have := hvN _ e; omega) | (have := hvN _ e.symm; omega))
                replace kv := kv.grown hgrow (fun e => by first | (have := hvN _ e; omega) | (have := hvN _ e.symm; omega))
                replace hb0 := hb0.trans (hBx.mono hNw)
                replace hN2 := Nat.le_trans hN2 hgrow.size
                clear hgrow hblk hBx hal hown hgr hx hbi
                go_wp2
                go_roundw
                case rel => exact ⟨k + 1, n1 + 1, _, _, rfl, by omega, by go_num, by omega, kl, kv, hown', hgn, hb0, hN2⟩
                case measure => simp [intOf]; omega
            · have d3 : decide ((j : Int) < (B : Int)) = false := decide_eq_false (by omega)
              have HST := Lib.hid (show fillC B (upTo F (fun _ => 0) j) = fillC B F from upTo_stop fun x h1 h2 => by omega)
              go_upto_region 10 with fail
              refine wpO_begin (Later) [] [0, 1, 2, 3, 4, 5, 6, 7, 8, 9, 10, 11, 12, 13, 14, 15, 16] (by kernel_rfl) (by kernel_rfl) ?_
              refine wpO_startK (later_moves) ?_
              intro Wc HWc hacc
              have hbW : Below wr.heap.size wr Wc := by rw [HWc.out]; exact (Below.refl _ _).drew
              repeat (first | (refine wpO_skip (later_moves) rfl rfl (fun _ _ _ h => h) ?_ ; simp only [Act.put, List.setIfInBounds_toArray, List.set_cons_zero, List.set_cons_succ]) | (refine wpO_light (v := ?_) (later_moves) rfl rfl (fun _ _ _ h => h) ?_ ?_ ; rotate_left ; (· (intro w' hR ; (first | have hcells := later_cellsD ((later_moves).trans _ _ _ hacc hR) | skip) ; go_simp ; try with_reducible rfl)) ; simp only [Act.put, List.setIfInBounds_toArray, List.set_cons_zero, List.set_cons_succ]))
              refine wpO_done ?_
              replace kg := kg.below hbW kg.lt
              replace hbi := below_chain hbi hbW
              clear c1 ci lk lv lg hacc
              generalize Wc = w3 at kg hbi ⊢
              rw [HST.out] at kg
              replace kl := kl.below hbi kl.lt
              replace kv := kv.below hbi kv.lt
              replace hb0 := below_chain hb0 hbi
              replace hN2 := Nat.le_trans hN2 hbi.size
              replace hown := own_below hown hbi (Nat.le_refl _)
              replace hgr := grows_below hgr hbi
              have hx := rwx_fill (N := N) (gb := v.ownBlock) kg (fun j _ => HFL.out j) (by simp [maxLen]; omega) hgN (fun e => by have := hvb _ e.symm; omega)
              rw [HCR.out] at hx
              clear kg
              go_wp2_with (at_builtin; refine wpl_append rfl _ _ rfl el_ww rfl (hown.alloc _) rfl (rd_one _ _ _) (by intro u hu; simp at hu; subst hu; rfl) (by omega) (by simp; omega) ?_)
              intro v' wn hown' hgrow hblk
              have hal := (Below.refl w3.heap.size w3).alloc (Nat.le_refl _) (.cells #[.slice (some ⟨wo.heap.size, 0, none⟩) B B] 28)
              replace hgr := grows_below hgr hal
              replace hx := rwx_keep hx hal.size (fun b _ h2 _ => hal.block b h2)
              have hgn := grows_app hgr hx hgrow (by simpa using hblk)
              rw [HVN1.out] at hgn
              have hBx := lw_grow (hown.alloc _) hgrow (by simp; omega)
              have hNw : w.heap.size ≤ N := by omega
              have hvN : ∀ q, v.ownBlock = some q → N ≤ q := fun q e => (hown.lt q e).1
              replace kl := kl.below hal kl.lt
              replace kv := kv.below hal kv.lt
              replace hb0 := below_chain hb0 hal
              replace hN2 := Nat.le_trans hN2 hal.size
              replace kl := kl.grown hgrow (fun e => by first | (have := hvN _ e; omega) | (have := hvN _ e.symm; omega))
              replace kv := kv.grown hgrow (fun e => by first | (have := hvN _ e; omega) | (have := hvN _ e.symm; omega))
              replace hb0 := hb0.trans (hBx.mono hNw)
              replace hN2 := Nat.le_trans hN2 hgrow.size
              clear hgrow hblk hBx hal hown hgr hx hbi
              go_wp2
              go_roundw
              case rel => exact ⟨k + 1, n1 + 1, _, _, rfl, by omega, by go_num, by omega, kl, kv, hown', hgn, hb0, hN2⟩
              case measure => simp [intOf]; omega
        · obtain rfl : k = p := by omega
          have q2 : ¬ ((k : Int) < (k : Int)) := by omega
          rw [← HPNi.out] at hgr
          go_wp2_with fail
          go_roundw
          case rel => exact ⟨i + 1, n1, _, cs, rfl, by omega, by go_num, by omega, kl, kv, hown, hgr, hb0, hN2⟩
          case measure => simp [intOf]; omega
    · obtain rfl : i = 4 := by omega
      rw [← HBL.out] at hgr
      go_wp2
      go_ret
      exact ⟨_, rfl, grows_done hgr hown, hb0⟩
end Go.Proofs.Ytefnagiffllhbaa
