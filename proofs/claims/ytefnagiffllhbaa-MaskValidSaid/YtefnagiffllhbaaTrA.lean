/-
  field Root, transform.root, transform.reduced.
-/
import Derived.Test.YtefnagiffllhbaaFldC
import Derived.Test.YtefnagiffllhbaaRowF
import Derived.Test.YtefnagiffllhbaaArr
namespace Go.Proofs.Ytefnagiffllhbaa
open Go.RowKit

/-- A length of a transform. -/
structure LenOk (p n : Nat) : Prop where
  pos : 1 ≤ n
  le : n ≤ 4096
  two : ∃ j, n = 2 ^ j
  dvd : (p - 1) % n = 0
def rootP (p n : Nat) : Nat := (rowOf p).1 ^ ((p - 1) / n) % p
theorem and_pow : ∀ j : Fin 13, bits .and .i64 ((2 ^ j.val : Nat) : Int) (((2 ^ j.val : Nat) : Int) - 1) = 0 := by decide +kernel
theorem pow_le {j : Nat} (h : 2 ^ j ≤ 4096) : j < 13 := by
  rcases Nat.lt_or_ge j 13 with h1 | h1
  · exact h1
  · have : 2 ^ 13 ≤ 2 ^ j := Nat.pow_le_pow_right (by omega) h1
    omega
theorem pow_of_and : ∀ b : Fin 257, 1 ≤ b.val → b.val &&& (b.val - 1) = 0 → ∃ j : Fin 9, b.val = 2 ^ j.val := by decide +kernel
theorem gen_lt {p : Nat} (h : okP p = true) : (rowOf p).1 < p := by
  rcases okP_cases h with rfl | rfl | rfl | rfl | rfl | rfl | rfl <;> decide

set_option maxRecDepth 100000 in
set_option maxHeartbeats 1000000 in
theorem fRoot_any (p n : Nat) (w : World) (hp : okP p = true) (hn : LenOk p n) :
    Calls Try.prog 102 #[fv p, .int .i64 (n : Int)] w fun e w' => e = .returned (.tuple #[.int .u64 (rootP p n : Int), .bool true]) ∧ Below w.heap.size w w' := by
  obtain ⟨h1, h2, h3, h4⟩ := hn
  obtain ⟨hp1, hp2⟩ := okP_lt hp
  have HV := Lib.hid (fun w => fValid_any p w hp)
  have HG := Lib.hid (fun w => fGen_any p w hp)
  have hand : bits .and .i64 (n : Int) ((n : Int) - 1) = 0 := by
    obtain ⟨j, hj⟩ := h3
    have := and_pow ⟨j, pow_le (by omega)⟩
    simp only at this
    rw [← hj] at this
    exact this
  obtain ⟨pm, hpm⟩ : ∃ pm, pm = p - 1 := ⟨_, rfl⟩
  obtain ⟨m, hm⟩ : ∃ m, m = pm / n := ⟨_, rfl⟩
  have HP := Lib.hid (fun w => fpow_any p (rowOf p).1 m w hp (gen_lt hp) (by rw [hm]; exact Nat.lt_of_le_of_lt (Nat.div_le_self _ _) (by omega)))
  have hR : rootP p n = (rowOf p).1 ^ m % p := by unfold rootP; rw [hm, hpm]
  rw [hR]
  have ep : IntKind.u64.wrap ((p : Int) - 1) = (pm : Int) := by rw [hpm]; exact wr_sub p 1 (by omega) hp2
  have ep2 : (p : Int) - 1 = (pm : Int) := by omega
  have ep3 : IntKind.u64.wrap (pm : Int) = (pm : Int) := wr_nat _ (by omega)
  have en : IntKind.u64.wrap (n : Int) = (n : Int) := wr_nat _ (by omega)
  have em : IntKind.u64.wrap (m : Int) = (m : Int) := wr_nat _ (by rw [hm]; exact Nat.lt_of_le_of_lt (Nat.div_le_self _ _) (by omega))
  have r1 : (pm : Int) % (n : Int) = 0 := by rw [hpm]; omega
  have r2 : (pm : Int).tmod (n : Int) = 0 := by rw [Int.tmod_eq_emod_of_nonneg (by omega)]; exact r1
  have r3 : (pm : Int) / (n : Int) = (m : Int) := by rw [hm]; rfl
  have r4 : (pm : Int).tdiv (n : Int) = (m : Int) := by rw [hm]; rfl
  have n0 : ¬ ((n : Int) = 0) := by omega
  have n5 : ¬ (n = 0) := by omega
  have n1 : (1 : Int) ≤ (n : Int) := by omega
  have n2 : ((n : Int) == 0) = false := by rw [beq_eq_false_iff_ne]; exact n0
  have n3 : (0 : Int) < (n : Int) := by omega
  have n4 : (n : Int) ≤ 4096 := by omega
  clear hR hm hp1 hp2 h1 h2 h3 h4 hp
  generalize (rowOf p).1 = gn at *
  generalize gn ^ m % p = r at *
  unfold fv at *
  have hb0 : Below w.heap.size w (w.alloc (.cells #[.int .u64 (p : Int)] 88)) := (Below.refl _ _).alloc (Nat.le_refl _) _
  have kf := Blk.new w 88 #[.int .u64 (p : Int)]
  clear hpm
  go_enter Try.func102, Try.ntmps102
  go_wp2_with fail
  refine (HV.out _).mono ?_
  rintro e' w1 ⟨rfl, hb1⟩
  replace kf := kf.below hb1 kf.lt
  replace hb0 := below_chain hb0 hb1
  clear hb1
  have cf := kf.cell
  have lf := kf.lt
  go_wp2_with fail
  refine wpGO_begin (Later) (later_moves) [] [] [0, 1, 2, 3, 4, 5, 6, 7, 8, 9, 10, 11] (by kernel_rfl) (by kernel_rfl) ?_
  refine wpGO_start (later_moves) ?_
  intro Wc hacc
  repeat (first | (refine wpGO_skip (later_moves) rfl rfl rfl rfl (fun _ _ _ h => h) ?_ ; simp only [Act.put, List.setIfInBounds_toArray, List.set_cons_zero, List.set_cons_succ]) | (refine wpGO_light (v := ?_) (later_moves) rfl rfl rfl rfl (fun _ _ _ h => h) ?_ ?_ ; rotate_left ; (· (intro w' hR ; (first | have hcells := later_cellsD ((later_moves).trans _ _ _ hacc hR) | skip) ; go_simp ; try with_reducible rfl)) ; simp only [Act.put, List.setIfInBounds_toArray, List.set_cons_zero, List.set_cons_succ]))
  refine wpGO_call (later_moves) rfl rfl rfl rfl (fun _ _ _ h => h) (fun _ => by go_simp <;> rfl) (fun w' hR => HG.out _) ?_
  simp only [Act.put, List.setIfInBounds_toArray, List.set_cons_zero, List.set_cons_succ]
  repeat (first | (refine wpGO_skip (later_moves) rfl rfl rfl rfl (fun _ _ _ h => h) ?_ ; simp only [Act.put, List.setIfInBounds_toArray, List.set_cons_zero, List.set_cons_succ]) | (refine wpGO_light (v := ?_) (later_moves) rfl rfl rfl rfl (fun _ _ _ h => h) ?_ ?_ ; rotate_left ; (· (intro w' hR ; (first | have hcells := later_cellsD ((later_moves).trans _ _ _ hacc hR) | skip) ; go_simp ; try with_reducible rfl)) ; simp only [Act.put, List.setIfInBounds_toArray, List.set_cons_zero, List.set_cons_succ]))
  refine wpGO_call (later_moves) rfl rfl rfl rfl (fun _ _ _ h => h) (fun _ => by go_simp <;> rfl) (fun w' hR => HP.out _) ?_
  simp only [Act.put, List.setIfInBounds_toArray, List.set_cons_zero, List.set_cons_succ]
  repeat (first | (refine wpGO_skip (later_moves) rfl rfl rfl rfl (fun _ _ _ h => h) ?_ ; simp only [Act.put, List.setIfInBounds_toArray, List.set_cons_zero, List.set_cons_succ]) | (refine wpGO_light (v := ?_) (later_moves) rfl rfl rfl rfl (fun _ _ _ h => h) ?_ ?_ ; rotate_left ; (· (intro w' hR ; (first | have hcells := later_cellsD ((later_moves).trans _ _ _ hacc hR) | skip) ; go_simp ; try with_reducible rfl)) ; simp only [Act.put, List.setIfInBounds_toArray, List.set_cons_zero, List.set_cons_succ]))
  refine wpGO_done rfl ?_
  intro wd hRd
  replace hacc := (later_moves).trans _ _ _ hacc hRd
  clear hRd
  go_wp2
  go_ret2
  exact ⟨rfl, below_chain hb0.drew hacc⟩

set_option maxRecDepth 100000 in
set_option maxHeartbeats 1000000 in
theorem tRoot_any (p n : Nat) (w : World) (hp : okP p = true) (hn : LenOk p n) :
    Calls Try.prog 70 #[fv p, .int .i64 (n : Int)] w fun e w' => e = .returned (.tuple #[.int .u64 (rootP p n : Int), .bool true]) ∧ Below w.heap.size w w' := by
  have HR := Lib.hid (fun w => fRoot_any p n w hp hn)
  have d1 : decide ((n : Int) < 1) = false := decide_eq_false (by have := hn.pos; omega)
  have d2 : decide ((4096 : Int) < (n : Int)) = false := decide_eq_false (by have := hn.le; omega)
  clear hn hp
  generalize rootP p n = r at *
  unfold fv at *
  have hb0 : Below w.heap.size w (w.alloc (.cells #[.int .u64 (p : Int)] 88)) := (Below.refl _ _).alloc (Nat.le_refl _) _
  go_enter Try.func70, Try.ntmps70
  go_wp2_with fail
  refine (HR.out _).mono ?_
  rintro e' w1 ⟨rfl, hb1⟩
  go_wp2
  go_ret2
  exact ⟨rfl, below_chain hb0 hb1⟩

/-- The first i cells are F's, the others still G's. -/
def upTo (F G : Nat → Nat) (i : Nat) : Nat → Nat := fun k => if k < i then F k else G k
theorem upTo_zero (n : Nat) (F G : Nat → Nat) : fillC n (upTo F G 0) = fillC n G := fill_same fun k _ => by simp [upTo]
theorem upTo_all (n : Nat) (F G : Nat → Nat) : fillC n (upTo F G n) = fillC n F := fill_same fun k hk => by simp [upTo, hk]
theorem upTo_get {n i : Nat} (F G : Nat → Nat) (h : i < n) : (fillC n (upTo F G i))[i]? = some (.int .u64 (G i : Int)) := by rw [fill_get _ h]; simp [upTo]
theorem upTo_set {n i v : Nat} {F G : Nat → Nat} (h : v = F i) : (fillC n (upTo F G i)).setIfInBounds i (.int .u64 (v : Int)) = fillC n (upTo F G (i + 1)) := by
  rw [fill_set]
  refine fill_same fun k _ => ?_
  simp only [putF, upTo]
  by_cases e : k = i
  · subst e; rw [if_pos rfl, if_pos (by omega), h]
  · rw [if_neg e]
    by_cases h2 : k < i
    · rw [if_pos h2, if_pos (by omega)]
    · rw [if_neg h2, if_neg (by omega)]
/-- A store into block g, of one cell. -/
theorem set_only {w : World} (g i : Nat) (v : Value) : w.grownBy (w.setCell ⟨g, i, none⟩ v) (some g) := grown_setCell' (p := ⟨g, i, none⟩) (grown_refl' w _) (.inl rfl) _

/-- The reduced elements of a list, in a block of its own. -/
def redP (p : Nat) (l : List Nat) (i : Nat) : Nat := l.getD i 0 % p
set_option maxRecDepth 100000 in
set_option maxHeartbeats 1000000 in
theorem tReduced_any (p : Nat) (A : Option Addr) (n c : Nat) (l : List Nat) (w : World) (hp : okP p = true) (hl : RWd w [.slice A n c] l) (hn : n ≤ 100000) :
    Calls Try.prog 71 #[fv p, .slice A n c] w fun e w' => ∃ g, e = .returned (.slice (some ⟨g, 0, none⟩) n n) ∧ w.heap.size ≤ g ∧ Blk w' g 22 (fillC n (redP p l)) ∧ Below w.heap.size w w' := by
  have HR := Lib.hid (fun x w => fReduce_any p x w hp)
  obtain ⟨rfl, h1, h2, hlt, hrd⟩ := lw_at hl
  clear hl
  have hrd := hrd
  unfold fv at *
  have mk := mk_words l.length (by omega)
  have gm : (l.length : Int) ≤ 100000 := by omega
  go_enter Try.func71, Try.ntmps71
  go_wp2_with fail
  obtain ⟨kf, ka, hb0, -⟩ := boxes2 w 88 22 #[.int .u64 (p : Int)] (fillC l.length fun _ => 0)
  have hg1 : w.heap.size < w.heap.size + 1 := by omega
  clear mk
  generalize (w.alloc _).alloc _ = w2 at kf ka hb0 ⊢
  generalize w.heap.size + 1 = ga at ka hg1 ⊢
  rw [← upTo_zero _ (redP p l)] at ka
  go_wp2_with fail
  go_loopw [6, 7, 13] (fun _ _ y wr => ∃ i : Nat, i ≤ l.length ∧ y = .int .i64 (i : Int) ∧ Blk wr w.heap.size 88 #[.int .u64 (p : Int)] ∧ Blk wr ga 22 (fillC l.length (upTo (redP p l) (fun _ => 0) i)) ∧ Below w.heap.size w wr) (fun _ _ y _ => l.length - (intOf y).toNat)
  case atStart => exact ⟨0, Nat.zero_le _, rfl, kf, ka, hb0⟩
  case round =>
    clear kf ka hb0
    obtain ⟨i, hi, rfl, kf, ka, hb0⟩ := hrel
    by_cases hlt' : i < l.length
    · have g1 : (0 : Int) ≤ (i : Int) := by omega
      have g2 : (i : Int) < (l.length : Int) := by omega
      obtain ⟨b, q, rfl, hbl, hc⟩ := lw_get (hrd.below hb0) hlt'
      obtain ⟨x, hx⟩ : ∃ x, x = l.getD i 0 := ⟨_, rfl⟩
      obtain ⟨z, hz⟩ : ∃ z, z = x % p := ⟨_, rfl⟩
      have HZ := Lib.hid (show z = redP p l i by rw [hz, hx]; rfl)
      have HX := Lib.hid (fun w => by have := HR.out x w; rw [← hz] at this; exact this)
      rw [← hx] at hc
      clear hx hz
      have cf := kf.cell
      go_wp2_with fail
      refine (HX.out _).mono ?_
      rintro e w5 ⟨rfl, hb5⟩
      have hba : ga < wr.heap.size := ka.lt
      replace kf := kf.below hb5 kf.lt
      replace ka := ka.below hb5 ka.lt
      replace hb0 := below_chain hb0 hb5
      clear hc cf hb5
      have fa := ka.frozen
      have ca := ka.cell i
      rw [upTo_get _ _ hlt'] at ca
      go_wp2_with fail
      have hg := set_only (w := w5) ga i (.int .u64 (z : Int))
      replace kf := kf.grown hg (fun e => by have := Option.some.inj e; first | omega | (exact absurd this (by assumption)) | (exact absurd this.symm (by assumption)))
      replace hb0 := hb0.trans (below_of_only hg hb0.size (by omega))
      replace ka := ka.set_ i (.int .u64 (z : Int))
      rw [upTo_set HZ.out] at ka
      clear hg fa ca
      go_roundw
      case rel => exact ⟨i + 1, by omega, by go_num, kf, ka, hb0⟩
      case measure => simp [intOf]; omega
    · obtain rfl : i = l.length := by omega
      rw [upTo_all] at ka
      go_wp2
      go_ret
      exact ⟨ga, rfl, by omega, ka, hb0⟩
end Go.Proofs.Ytefnagiffllhbaa

