/-
  The program's permutation: Permute.
-/
import Derived.Test.YtefnagiffllhbaaPerA
namespace Go.Proofs.Ytefnagiffllhbaa
open Go.RowKit

def sboxP (p r i x : Nat) : Nat := ((x + consP p r i) % p) ^ (rowOf p).2.2 % p
def St.at_ (s : St) (i : Nat) : Nat := if i = 0 then s.a else if i = 1 then s.b else s.c
/-- The state after the first i elements of a round. -/
def subF (f : Nat → Nat → Nat) (s : St) : Nat → St
  | 0 => s
  | 1 => ⟨f 0 s.a, s.b, s.c⟩
  | 2 => ⟨f 0 s.a, f 1 s.b, s.c⟩
  | _ => ⟨f 0 s.a, f 1 s.b, f 2 s.c⟩
def roundP (p r : Nat) (s : St) : St := mixP p (subF (sboxP p r) s 3)
def permTo (p : Nat) (s : St) : Nat → St
  | 0 => s
  | r + 1 => roundP p r (permTo p s r)
def permP (p : Nat) (s : St) : St := permTo p s 8
theorem St.cs_at (s : St) {i : Nat} (h : i < 3) : s.cs[i]? = some (.int .u64 (s.at_ i : Int)) := by
  rcases (show i = 0 ∨ i = 1 ∨ i = 2 by omega) with rfl | rfl | rfl <;> rfl
theorem subF_at (f : Nat → Nat → Nat) (s : St) {i : Nat} (h : i < 3) : (subF f s i).at_ i = s.at_ i := by
  rcases (show i = 0 ∨ i = 1 ∨ i = 2 by omega) with rfl | rfl | rfl <;> rfl
theorem subF_set (f : Nat → Nat → Nat) (s : St) {i : Nat} (h : i < 3) : (subF f s i).cs.setIfInBounds i (.int .u64 (f i (s.at_ i) : Int)) = (subF f s (i + 1)).cs := by
  rcases (show i = 0 ∨ i = 1 ∨ i = 2 by omega) with rfl | rfl | rfl <;> simp [subF, St.cs, St.at_]
theorem rowOf_lt {p : Nat} (h : okP p = true) : (rowOf p).1 < 18446744073709551616 ∧ (rowOf p).2.2 < 18446744073709551616 := by
  rcases okP_cases h with rfl | rfl | rfl | rfl | rfl | rfl | rfl <;> exact ⟨by decide, by decide⟩

set_option maxRecDepth 100000 in
set_option maxHeartbeats 1000000 in
theorem pPermute_any (p : Nat) (s : St) (w : World) (hp : okP p = true) :
    Calls Try.prog 98 #[.int .u64 p, s.val] w fun e w' => e = .returned (permP p s).val ∧ Below w.heap.size w w' := by
  have HV := Lib.hid (fun w => fValid_any p w hp)
  have HE := Lib.hid (fun w => fExp_any p w hp)
  have HC := Lib.hid (fun r i w hr hi => pConst_any p r i w hp hr hi)
  have HA := Lib.hid (fun a b w => fAdd_any p a b w hp)
  have HP := Lib.hid (fun a n w hn => fPow_any p a n w hp hn)
  have HM := Lib.hid (fun s w => pMix_any p s w hp)
  have hel := (rowOf_lt hp).2
  have HSB := Lib.hid (show ∀ r i x, sboxP p r i x = ((x + consP p r i) % p) ^ (rowOf p).2.2 % p from fun _ _ _ => rfl)
  clear hp
  unfold fv at *
  generalize (rowOf p).2.2 = ex at *
  have HEL := Lib.hid hel
  clear hel
  obtain ⟨k1, k2, k3, hb0, hsz⟩ := boxes3 w 120 120 88 s.cs #[.int .u64 0, .int .u64 0, .int .u64 0] #[.int .u64 (p : Int)]
  have HPO := Lib.hid (show (permP p s).val = (permTo p s 8).val from rfl)
  rw [HPO.out]
  clear HPO
  unfold St.cs at k1 k2 k3 hb0 hsz
  have ev : s.val = .agg #[.int .u64 (s.a : Int), .int .u64 (s.b : Int), .int .u64 (s.c : Int)] := rfl
  rw [ev]
  clear ev
  go_enter Try.func98, Try.ntmps98
  go_wp2_with fail
  generalize ((w.alloc _).alloc _).alloc _ = w0 at k1 k2 k3 hb0 hsz ⊢
  refine (HV.out _).mono ?_
  rintro e w1 ⟨rfl, hb1⟩
  replace k1 := k1.below hb1 k1.lt
  replace k2 := k2.below hb1 k2.lt
  replace k3 := k3.below hb1 k3.lt
  replace hb0 := below_chain hb0 hb1
  clear hb1 hsz
  have c3 := k3.cell
  go_wp2_with fail
  refine (HE.out _).mono ?_
  rintro e w2 ⟨rfl, hb2⟩
  replace k1 : Blk w2 w.heap.size 120 (permTo p s 0).cs := k1.below hb2 k1.lt
  replace k2 := k2.below hb2 k2.lt
  replace k3 := k3.below hb2 k3.lt
  replace hb0 := below_chain hb0 hb2
  clear hb2 c3 HV HE
  go_wp2_with fail
  go_loopw [17] (fun i wr => ∃ r : Nat, r ≤ 8 ∧ i = .int .i64 (r : Int) ∧ Blk wr w.heap.size 120 (permTo p s r).cs ∧ Blk wr (w.heap.size + 1) 120 #[.int .u64 0, .int .u64 0, .int .u64 0] ∧ Blk wr (w.heap.size + 1 + 1) 88 #[.int .u64 (p : Int)] ∧ Below w.heap.size w wr) (fun i _ => 8 - (intOf i).toNat)
  case atStart => exact ⟨0, Nat.zero_le _, rfl, k1, k2, k3, hb0⟩
  case round =>
    clear k1 k2 k3 hb0
    obtain ⟨r, hr, rfl, k1, k2, k3, hb0⟩ := hrel
    by_cases hlt : r < 8
    · have g1 : (r : Int) < 8 := by omega
      obtain ⟨t, ht⟩ : ∃ t, t = permTo p s r := ⟨_, rfl⟩
      rw [← ht] at k1
      have HT := Lib.hid (show permTo p s (r + 1) = mixP p (subF (sboxP p r) t 3) by rw [permTo, ← ht]; rfl)
      clear ht
      go_wp2_with fail
      go_loopw [20] (fun i wr => ∃ m : Nat, m ≤ 3 ∧ i = .int .i64 (m : Int) ∧ Blk wr w.heap.size 120 (subF (sboxP p r) t m).cs ∧ Blk wr (w.heap.size + 1) 120 #[.int .u64 0, .int .u64 0, .int .u64 0] ∧ Blk wr (w.heap.size + 1 + 1) 88 #[.int .u64 (p : Int)] ∧ Below w.heap.size w wr) (fun i _ => 3 - (intOf i).toNat)
      case atStart => exact ⟨0, Nat.zero_le _, rfl, k1, k2, k3, hb0⟩
      case round =>
        clear k1 k2 k3 hb0
        obtain ⟨m, hm, rfl, k1, k2, k3, hb0⟩ := hrel
        by_cases hlt2 : m < 3
        · have g2 : (m : Int) < 3 := by omega
          have cm := k1.cell m
          rw [St.cs_at _ hlt2, subF_at _ _ hlt2] at cm
          have HSET := Lib.hid (subF_set (sboxP p r) t hlt2)
          have HSV := Lib.hid (HSB.out r m (t.at_ m))
          have HC1 := Lib.hid (fun w => HC.out r m w hlt hlt2)
          have HA1 := Lib.hid (fun w => HA.out (t.at_ m) (consP p r m) w)
          have HP1 := Lib.hid (fun w => HP.out ((t.at_ m + consP p r m) % p) ex w HEL.out)
          rw [← HSV.out] at HP1
          clear HSV
          generalize sboxP p r m (t.at_ m) = sv at *
          generalize (t.at_ m + consP p r m) % p = av at *
          generalize consP p r m = cv at *
          generalize t.at_ m = xv at *
          have c3 := k3.cell
          have l1 := k1.lt
          have l3 := k3.lt
          go_wp2_with fail
          refine wpGO_begin (Later) (later_moves) [14] [14] [0, 1, 2, 3, 4, 5, 6, 7, 8, 9, 10, 11, 12, 13, 14] (by kernel_rfl) (by kernel_rfl) ?_
          refine wpGO_start (later_moves) ?_
          intro Wc hacc
          repeat (first | (refine wpGO_skip (later_moves) rfl rfl rfl rfl (fun _ _ _ h => h) ?_ ; simp only [Act.put, List.setIfInBounds_toArray, List.set_cons_zero, List.set_cons_succ]) | (refine wpGO_light (v := ?_) (later_moves) rfl rfl rfl rfl (fun _ _ _ h => h) ?_ ?_ ; rotate_left ; (· (intro w' hR ; (first | have hcells := later_cellsD ((later_moves).trans _ _ _ hacc hR) | skip) ; go_simp ; try with_reducible rfl)) ; simp only [Act.put, List.setIfInBounds_toArray, List.set_cons_zero, List.set_cons_succ]) | (refine wpGO_free (v := ?_) rfl rfl rfl rfl (fun _ _ _ h => h) ?_ ?_ ; rotate_left ; (· (intro w' ; go_simp ; try with_reducible rfl)) ; simp only [Act.put, List.setIfInBounds_toArray, List.set_cons_zero, List.set_cons_succ]))
          refine wpGO_call (later_moves) rfl rfl rfl rfl (fun _ _ _ h => h) (fun _ => by go_simp <;> rfl) (fun w' hR => HC1.out _) ?_
          simp only [Act.put, List.setIfInBounds_toArray, List.set_cons_zero, List.set_cons_succ]
          repeat (first | (refine wpGO_skip (later_moves) rfl rfl rfl rfl (fun _ _ _ h => h) ?_ ; simp only [Act.put, List.setIfInBounds_toArray, List.set_cons_zero, List.set_cons_succ]) | (refine wpGO_light (v := ?_) (later_moves) rfl rfl rfl rfl (fun _ _ _ h => h) ?_ ?_ ; rotate_left ; (· (intro w' hR ; (first | have hcells := later_cellsD ((later_moves).trans _ _ _ hacc hR) | skip) ; go_simp ; try with_reducible rfl)) ; simp only [Act.put, List.setIfInBounds_toArray, List.set_cons_zero, List.set_cons_succ]) | (refine wpGO_free (v := ?_) rfl rfl rfl rfl (fun _ _ _ h => h) ?_ ?_ ; rotate_left ; (· (intro w' ; go_simp ; try with_reducible rfl)) ; simp only [Act.put, List.setIfInBounds_toArray, List.set_cons_zero, List.set_cons_succ]))
          refine wpGO_call (later_moves) rfl rfl rfl rfl (fun _ _ _ h => h) (fun _ => by go_simp <;> rfl) (fun w' hR => HA1.out _) ?_
          simp only [Act.put, List.setIfInBounds_toArray, List.set_cons_zero, List.set_cons_succ]
          repeat (first | (refine wpGO_skip (later_moves) rfl rfl rfl rfl (fun _ _ _ h => h) ?_ ; simp only [Act.put, List.setIfInBounds_toArray, List.set_cons_zero, List.set_cons_succ]) | (refine wpGO_light (v := ?_) (later_moves) rfl rfl rfl rfl (fun _ _ _ h => h) ?_ ?_ ; rotate_left ; (· (intro w' hR ; (first | have hcells := later_cellsD ((later_moves).trans _ _ _ hacc hR) | skip) ; go_simp ; try with_reducible rfl)) ; simp only [Act.put, List.setIfInBounds_toArray, List.set_cons_zero, List.set_cons_succ]) | (refine wpGO_free (v := ?_) rfl rfl rfl rfl (fun _ _ _ h => h) ?_ ?_ ; rotate_left ; (· (intro w' ; go_simp ; try with_reducible rfl)) ; simp only [Act.put, List.setIfInBounds_toArray, List.set_cons_zero, List.set_cons_succ]))
          refine wpGO_call (later_moves) rfl rfl rfl rfl (fun _ _ _ h => h) (fun _ => by go_simp <;> rfl) (fun w' hR => HP1.out _) ?_
          simp only [Act.put, List.setIfInBounds_toArray, List.set_cons_zero, List.set_cons_succ]
          repeat (first | (refine wpGO_skip (later_moves) rfl rfl rfl rfl (fun _ _ _ h => h) ?_ ; simp only [Act.put, List.setIfInBounds_toArray, List.set_cons_zero, List.set_cons_succ]) | (refine wpGO_light (v := ?_) (later_moves) rfl rfl rfl rfl (fun _ _ _ h => h) ?_ ?_ ; rotate_left ; (· (intro w' hR ; (first | have hcells := later_cellsD ((later_moves).trans _ _ _ hacc hR) | skip) ; go_simp ; try with_reducible rfl)) ; simp only [Act.put, List.setIfInBounds_toArray, List.set_cons_zero, List.set_cons_succ]) | (refine wpGO_free (v := ?_) rfl rfl rfl rfl (fun _ _ _ h => h) ?_ ?_ ; rotate_left ; (· (intro w' ; go_simp ; try with_reducible rfl)) ; simp only [Act.put, List.setIfInBounds_toArray, List.set_cons_zero, List.set_cons_succ]))
          refine wpGO_heavy rfl rfl rfl rfl ?_
          intro wh hRh
          replace hacc := (later_moves).trans _ _ _ hacc hRh
          replace k1 := k1.drew.below hacc k1.lt
          replace k2 := k2.drew.below hacc k2.lt
          replace k3 := k3.drew.below hacc k3.lt
          replace hb0 := below_chain hb0.drew hacc
          have f1 := k1.frozen m
          have cm2 : wh.cell? ⟨w.heap.size, m, none⟩ = some (.int .u64 (xv : Int)) := cell_later hacc cm
          clear c3 l1 l3 cm
          go_simp
          refine ⟨fun h => Bool.noConfusion h, ?_⟩
          have hg : wh.grownBy (wh.setCell ⟨w.heap.size, m, none⟩ (.int .u64 (sv : Int))) (some w.heap.size) := grown_setCell' (p := ⟨w.heap.size, m, none⟩) (grown_refl' wh _) (.inl rfl) _
          replace k1 := k1.set_ m (.int .u64 (sv : Int))
          rw [HSET.out] at k1
          replace k2 := k2.grown hg (fun e => by have := Option.some.inj e; omega)
          replace k3 := k3.grown hg (fun e => by have := Option.some.inj e; omega)
          replace hb0 := hb0.trans (below_of_only hg hb0.size (Nat.le_refl _))
          clear hg f1 cm2
          generalize wh.setCell _ _ = Wf at k1 k2 k3 hb0 ⊢
          refine wpGO_doneP rfl ?_
          go_wp2
          go_roundw
          case rel => exact ⟨m + 1, by omega, by go_num, k1, k2, k3, hb0⟩
          case measure => simp [intOf]; omega
        · obtain rfl : m = 3 := by omega
          obtain ⟨q, hq⟩ : ∃ q, q = subF (sboxP p r) t 3 := ⟨_, rfl⟩
          rw [← hq] at k1 HT
          clear hq
          have k1' : Blk wr w.heap.size 120 #[.int .u64 (q.a : Int), .int .u64 (q.b : Int), .int .u64 (q.c : Int)] := k1
          obtain ⟨z, hz⟩ : ∃ z, z = mixP p q := ⟨_, rfl⟩
          rw [← hz] at HT
          have HM1 := Lib.hid (show ∀ w, Calls Try.prog 111 #[.int .u64 p, .agg #[.int .u64 (q.a : Int), .int .u64 (q.b : Int), .int .u64 (q.c : Int)]] w fun e w' => e = .returned (.agg #[.int .u64 (z.a : Int), .int .u64 (z.b : Int), .int .u64 (z.c : Int)]) ∧ Below w.heap.size w w' from fun w => by rw [hz]; exact HM.out q w)
          clear hz k1
          have c1 := k1'.cell
          go_wp2_with fail
          refine (HM1.out _).mono ?_
          rintro e w5 ⟨rfl, hb5⟩
          replace k1' := k1'.below hb5 k1'.lt
          replace k2 := k2.below hb5 k2.lt
          replace k3 := k3.below hb5 k3.lt
          replace hb0 := below_chain hb0 hb5
          clear hb5 c1
          have c1 := k1'.cell
          have f1 := k1'.frozen
          go_wp2_with fail
          have hg := set3_grown (w := w5) (g := w.heap.size) (.int .u64 (z.a : Int)) (.int .u64 (z.b : Int)) (.int .u64 (z.c : Int))
          have kz := set3_blk k1' (.int .u64 (z.a : Int)) (.int .u64 (z.b : Int)) (.int .u64 (z.c : Int))
          replace k2 := k2.grown hg (fun e => by have := Option.some.inj e; omega)
          replace k3 := k3.grown hg (fun e => by have := Option.some.inj e; omega)
          replace hb0 := hb0.trans (below_of_only hg hb0.size (Nat.le_refl _))
          clear hg c1 f1 k1'
          generalize ((World.setCell w5 _ _).setCell _ _).setCell _ _ = Wf at kz k2 k3 hb0 ⊢
          go_roundw
          case rel => exact ⟨r + 1, by omega, by go_num, by rw [HT.out]; exact kz, k2, k3, hb0⟩
          case measure => simp [intOf]; omega
    · obtain rfl : r = 8 := by omega
      obtain ⟨q, hq⟩ : ∃ q, q = permTo p s 8 := ⟨_, rfl⟩
      rw [← hq] at k1
      have HQ := Lib.hid hq
      clear hq
      have k1' : Blk wr w.heap.size 120 #[.int .u64 (q.a : Int), .int .u64 (q.b : Int), .int .u64 (q.c : Int)] := k1
      have c1 := k1'.cell
      have c2 := k2.cell
      have f2 := k2.frozen
      go_wp2_with fail
      have hg := set3_grown (w := wr) (g := w.heap.size + 1) (.int .u64 (q.a : Int)) (.int .u64 (q.b : Int)) (.int .u64 (q.c : Int))
      have kz := set3_blk k2 (.int .u64 (q.a : Int)) (.int .u64 (q.b : Int)) (.int .u64 (q.c : Int))
      clear c1 c2 f2 k2
      generalize ((World.setCell wr _ _).setCell _ _).setCell _ _ = Wf at hg kz ⊢
      have cz := kz.cell
      have hs := hb0.size
      exact bodyPost_ret (v := .agg #[.int .u64 (q.a : Int), .int .u64 (q.b : Int), .int .u64 (q.c : Int)]) (by simp [results, Try.results98, go_sem, cz]) rfl ⟨by rw [← HQ.out]; rfl, hb0.trans (below_of_only hg hs (by omega))⟩
end Go.Proofs.Ytefnagiffllhbaa

