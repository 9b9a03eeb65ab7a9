/-
  The program's sponge: Squeeze (of a list that is not empty).
-/
import Derived.Test.YtefnagiffllhbaaSpoA
import Derived.Test.YtefnagiffllhbaaArr
namespace Go.Proofs.Ytefnagiffllhbaa
open Go.RowKit

/-- The state after some permutations. -/
def perI (p : Nat) (s : St) : Nat → St
  | 0 => s
  | m + 1 => permP p (perI p s m)
/-- Output k. -/
def sqAt (p : Nat) (s : St) (k : Nat) : Nat := (perI p s (k / 2)).at_ (k % 2)
theorem sq_next (f : Nat → Nat) (n k : Nat) : fillC n (putF (fun i => if i < k then f i else 0) k (f k)) = fillC n fun i => if i < k + 1 then f i else 0 := by
  refine fill_same fun i _ => ?_
  simp only [putF]
  by_cases h : i = k
  · subst h; rw [if_pos rfl, if_pos (by omega)]
  · rw [if_neg h]
    by_cases h2 : i < k
    · rw [if_pos h2, if_pos (by omega)]
    · rw [if_neg h2, if_neg (by omega)]

set_option maxRecDepth 100000 in
set_option maxHeartbeats 1000000 in
theorem pSqueeze_any (p label : Nat) (A : Option Addr) (n c m : Nat) (l : List Nat) (w : World) (hp : okP p = true) (hl : RWd w [.slice A n c] l) (hne : 0 < l.length) (hlen : l.length ≤ 1000000) (hm : m ≤ 65536) :
    Calls Try.prog 61 #[.int .u64 p, .int .u64 label, .slice A n c, .int .i64 (m : Int)] w fun e w' => ∃ g, e = .returned (.slice (some ⟨g, 0, none⟩) m m) ∧ w.heap.size ≤ g ∧ Blk w' g 22 (fillC m (sqAt p (absorbP p label l))) ∧ Below w.heap.size w w' := by
  have HV := Lib.hid (fun w => fValid_any p w hp)
  have HAb := Lib.hid (fun w' (hb : Below w.heap.size w w') => pAbsorb_any p label A n c l w' hp (kept_RWd _ _ _ _ hb hl) hne hlen)
  have HP := Lib.hid (fun s w => pPermute_any p s w hp)
  have hmk := fun w => mk_words m (by omega) w
  have g0 : ¬ ((m : Int) < 0) := by omega
  have g1 : (m : Int) ≤ 65536 := by omega
  clear hl hne hlen hp
  generalize absorbP p label l = s at *
  unfold fv at *
  go_enter Try.func61, Try.ntmps61
  go_wp2_with fail
  refine (HV.out _).mono ?_
  rintro e w1 ⟨rfl, hb1⟩
  go_wp2_with fail
  refine (HAb.out _ hb1).mono ?_
  rintro e w2 ⟨rfl, hb2⟩
  have hb0 := below_chain hb1 hb2
  have ev : s.val = .agg #[.int .u64 (s.a : Int), .int .u64 (s.b : Int), .int .u64 (s.c : Int)] := rfl
  rw [ev]
  obtain ⟨ks0, kg, hba, hsz⟩ := boxes2 w2 120 22 #[.int .u64 (s.a : Int), .int .u64 (s.b : Int), .int .u64 (s.c : Int)] (fillC m fun _ => 0)
  have hs2 := hb0.size
  replace hb0 := below_chain hb0 hba
  clear ev hb1 hb2 hba
  generalize hz : fillC m (fun _ => 0) = zc at *
  go_upto_region 5 with fail
  generalize (w2.alloc _).alloc _ = w3 at ks0 kg hb0 hsz ⊢
  generalize w2.heap.size = gs at *
  clear hsz
  have ks : Blk w3 gs 120 (perI p s ((0 - 1) / 2)).cs := ks0
  rw [← hz, show fillC m (fun _ => 0) = fillC m (fun k => if k < 0 then sqAt p s k else 0) from fill_same fun i _ => by rw [if_neg (by omega)]] at kg
  clear hz ks0
  go_wp2_with fail
  go_loopw [32] (fun y wr => ∃ i : Nat, i ≤ m ∧ y = .int .i64 (i : Int) ∧ Blk wr gs 120 (perI p s ((i - 1) / 2)).cs ∧ Blk wr (gs + 1) 22 (fillC m fun k => if k < i then sqAt p s k else 0) ∧ Below w.heap.size w wr) (fun y _ => m - (intOf y).toNat)
  case atStart => exact ⟨0, Nat.zero_le _, rfl, ks, kg, hb0⟩
  case round =>
    clear ks kg hb0
    obtain ⟨i, hi, rfl, ks, kg, hb0⟩ := hrel
    by_cases hlt : i < m
    · have g2 : (i : Int) < (m : Int) := by omega
      have g3 : (0 : Int) ≤ (i : Int) := by omega
      obtain ⟨sv, hsv⟩ : ∃ sv, sv = sqAt p s i := ⟨_, rfl⟩
      obtain ⟨j, hj⟩ : ∃ j, j = i % 2 := ⟨_, rfl⟩
      have hj3 : j < 3 := by omega
      have ej : (i : Int) % 2 = (j : Int) := by omega
      have ej2 : (i : Int).tmod 2 = (j : Int) := by rw [Int.tmod_eq_emod_of_nonneg (by omega)]; exact ej
      have HSQ := Lib.hid (show (perI p s (i / 2)).at_ j = sv by rw [hj, hsv]; rfl)
      have HSV := Lib.hid hsv.symm
      clear hsv
      rcases (show i = 0 ∨ i % 2 = 1 ∨ (0 < i ∧ i % 2 = 0) by omega) with h0 | h1 | ⟨h2, h3⟩
      · have d1 : ¬ ((0 : Int) < (i : Int)) := by omega
        have d2 : decide ((0 : Int) < (i : Int)) = false := decide_eq_false d1
        rw [show (i - 1) / 2 = i / 2 by omega] at ks
        have H0 := Lib.hid h0
        clear h0 hj
        have cj := ks.cell j
        rw [St.cs_at _ hj3] at cj
        have ci := kg.cell i
        rw [fill_get _ hlt] at ci
        rw [HSQ.out] at cj
        have fi := kg.frozen i
        generalize (if i < i then sqAt p s i else 0) = old at ci
        go_wp2_with fail
        have hg : wr.grownBy (wr.setCell ⟨gs + 1, i, none⟩ (.int .u64 (sv : Int))) (some (gs + 1)) := grown_setCell' (p := ⟨gs + 1, i, none⟩) (grown_refl' wr _) (.inl rfl) _
        replace kg := kg.set_ i (.int .u64 (sv : Int))
        have HN : (fillC m fun k => if k < i then sqAt p s k else 0).setIfInBounds i (.int .u64 (sv : Int)) = fillC m (fun k => if k < i + 1 then sqAt p s k else 0) := by rw [fill_set, ← HSV.out, sq_next]
        rw [HN] at kg
        replace ks := ks.grown hg (fun e => by have := Option.some.inj e; omega)
        replace hb0 := hb0.trans (below_of_only hg hb0.size (by omega))
        clear hg fi ci cj
        go_roundw
        case rel => exact ⟨i + 1, by omega, by go_num, by rw [show (i + 1 - 1) / 2 = i / 2 by omega]; exact ks, kg, hb0⟩
        case measure => simp [intOf]; omega
      · have d1 : (0 : Int) < (i : Int) := by omega
        have d3 : ((j : Int) == 0) = false := by rw [beq_eq_false_iff_ne]; omega
        rw [show (i - 1) / 2 = i / 2 by omega] at ks
        clear h1 hj
        have cj := ks.cell j
        rw [St.cs_at _ hj3] at cj
        have ci := kg.cell i
        rw [fill_get _ hlt] at ci
        rw [HSQ.out] at cj
        have fi := kg.frozen i
        generalize (if i < i then sqAt p s i else 0) = old at ci
        go_wp2_with fail
        have hg : wr.grownBy (wr.setCell ⟨gs + 1, i, none⟩ (.int .u64 (sv : Int))) (some (gs + 1)) := grown_setCell' (p := ⟨gs + 1, i, none⟩) (grown_refl' wr _) (.inl rfl) _
        replace kg := kg.set_ i (.int .u64 (sv : Int))
        have HN : (fillC m fun k => if k < i then sqAt p s k else 0).setIfInBounds i (.int .u64 (sv : Int)) = fillC m (fun k => if k < i + 1 then sqAt p s k else 0) := by rw [fill_set, ← HSV.out, sq_next]
        rw [HN] at kg
        replace ks := ks.grown hg (fun e => by have := Option.some.inj e; omega)
        replace hb0 := hb0.trans (below_of_only hg hb0.size (by omega))
        clear hg fi ci cj
        go_roundw
        case rel => exact ⟨i + 1, by omega, by go_num, by rw [show (i + 1 - 1) / 2 = i / 2 by omega]; exact ks, kg, hb0⟩
        case measure => simp [intOf]; omega
      · have d1 : (0 : Int) < (i : Int) := by omega
        have d3 : ((j : Int) == 0) = true := by rw [beq_iff_eq]; omega
        obtain ⟨q, hq⟩ : ∃ q, q = perI p s ((i - 1) / 2) := ⟨_, rfl⟩
        rw [← hq] at ks
        obtain ⟨z, hz⟩ : ∃ z, z = permP p q := ⟨_, rfl⟩
        have HZ := Lib.hid (show perI p s (i / 2) = z by rw [show i / 2 = (i - 1) / 2 + 1 by omega, perI, ← hq, hz])
        have HX := Lib.hid (show ∀ w, Calls Try.prog 98 #[.int .u64 p, .agg #[.int .u64 (q.a : Int), .int .u64 (q.b : Int), .int .u64 (q.c : Int)]] w fun e w' => e = .returned (.agg #[.int .u64 (z.a : Int), .int .u64 (z.b : Int), .int .u64 (z.c : Int)]) ∧ Below w.heap.size w w' from fun w => by rw [hz]; exact HP.out q w)
        have ks2 : Blk wr gs 120 #[.int .u64 (q.a : Int), .int .u64 (q.b : Int), .int .u64 (q.c : Int)] := ks
        clear h2 h3 hj hq hz ks
        have cs := ks2.cell
        go_wp2_with fail
        refine (HX.out _).mono ?_
        rintro e w5 ⟨rfl, hb5⟩
        replace ks2 := ks2.below hb5 ks2.lt
        replace kg := kg.below hb5 kg.lt
        replace hb0 := below_chain hb0 hb5
        clear cs hb5
        have cs := ks2.cell
        have fs := ks2.frozen
        go_upto_region 10 with fail
        have hg := set3_grown (w := w5) (g := gs) (.int .u64 (z.a : Int)) (.int .u64 (z.b : Int)) (.int .u64 (z.c : Int))
        have ks : Blk _ gs 120 z.cs := set3_blk ks2 (.int .u64 (z.a : Int)) (.int .u64 (z.b : Int)) (.int .u64 (z.c : Int))
        replace kg := kg.grown hg (fun e => by have := Option.some.inj e; omega)
        replace hb0 := hb0.trans (below_of_only hg hb0.size (by omega))
        clear hg cs fs ks2
        generalize ((World.setCell w5 _ _).setCell _ _).setCell _ _ = W8 at ks kg hb0 ⊢
        rw [← HZ.out] at ks
        have cj := ks.cell j
        rw [St.cs_at _ hj3] at cj
        have ci := kg.cell i
        rw [fill_get _ hlt] at ci
        rw [HSQ.out] at cj
        have fi := kg.frozen i
        generalize (if i < i then sqAt p s i else 0) = old at ci
        go_wp2_with fail
        have hg : W8.grownBy (W8.setCell ⟨gs + 1, i, none⟩ (.int .u64 (sv : Int))) (some (gs + 1)) := grown_setCell' (p := ⟨gs + 1, i, none⟩) (grown_refl' W8 _) (.inl rfl) _
        replace kg := kg.set_ i (.int .u64 (sv : Int))
        have HN : (fillC m fun k => if k < i then sqAt p s k else 0).setIfInBounds i (.int .u64 (sv : Int)) = fillC m (fun k => if k < i + 1 then sqAt p s k else 0) := by rw [fill_set, ← HSV.out, sq_next]
        rw [HN] at kg
        replace ks := ks.grown hg (fun e => by have := Option.some.inj e; omega)
        replace hb0 := hb0.trans (below_of_only hg hb0.size (by omega))
        clear hg fi ci cj
        go_roundw
        case rel => exact ⟨i + 1, by omega, by go_num, by rw [show (i + 1 - 1) / 2 = i / 2 by omega]; exact ks, kg, hb0⟩
        case measure => simp [intOf]; omega
    · obtain rfl : i = m := by omega
      rw [show fillC i (fun k => if k < i then sqAt p s k else 0) = fillC i (sqAt p s) from fill_same fun k hk => by rw [if_pos hk]] at kg
      go_wp2
      go_ret
      exact ⟨gs + 1, rfl, by omega, kg, hb0⟩
end Go.Proofs.Ytefnagiffllhbaa

