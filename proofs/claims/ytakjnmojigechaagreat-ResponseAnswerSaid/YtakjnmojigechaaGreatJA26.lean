/- A part of the proof: TrB. No condition. -/
import Derived.Test.YtakjnmojigechaaGreatJA16
import Derived.Test.YtakjnmojigechaaGreatJA24

namespace Go.Proofs.YtakjnmojigechaaGreat
open Go.RowKit
def powI (p w : Nat) : Nat → Nat
  | 0 => 1
  | k + 1 => powI p w k * w % p
def fftP (p : Nat) : Nat → (Nat → Nat) → Nat → Nat → Nat
  | 0, a, _ => a
  | j + 1, a, w => fun k =>
    if k < 2 ^ j then (fftP p j (fun i => a (2 * i)) (w * w % p) k + powI p w k * fftP p j (fun i => a (2 * i + 1)) (w * w % p) k % p) % p
    else (fftP p j (fun i => a (2 * i)) (w * w % p) (k - 2 ^ j) + negP p (powI p w (k - 2 ^ j) * fftP p j (fun i => a (2 * i + 1)) (w * w % p) (k - 2 ^ j) % p)) % p
def upTo2 (F a : Nat → Nat) (h i : Nat) : Nat → Nat := fun k => if k < i ∨ (h ≤ k ∧ k < h + i) then F k else a k
theorem upTo2_zero (n : Nat) (F a : Nat → Nat) (h : Nat) : fillC n (upTo2 F a h 0) = fillC n a := fill_same fun k _ => by unfold upTo2; rw [if_neg (by omega)]
theorem upTo2_all (n : Nat) (F a : Nat → Nat) (h : Nat) (hn : n = 2 * h) : fillC n (upTo2 F a h h) = fillC n F := fill_same fun k hk => by unfold upTo2; rw [if_pos (by omega)]
theorem upTo2_set {n h i v u k : Nat} {F a : Nat → Nat} (hi : i < h) (hv : v = F i) (hk : k = i + h) (hu : u = F k) : ((fillC n (upTo2 F a h i)).setIfInBounds i (.int .u64 (v : Int))).setIfInBounds k (.int .u64 (u : Int)) = fillC n (upTo2 F a h (i + 1)) := by
  subst hv hu
  rw [fill_set, fill_set]
  refine fill_same fun m _ => ?_
  simp only [putF, upTo2]
  by_cases e1 : m = k
  · subst e1; rw [if_pos rfl, if_pos (by omega)]
  · rw [if_neg e1]
    by_cases e2 : m = i
    · subst e2; rw [if_pos rfl, if_pos (by omega)]
    · rw [if_neg e2]
      by_cases e3 : m < i ∨ (h ≤ m ∧ m < h + i)
      · rw [if_pos e3, if_pos (by omega)]
      · rw [if_neg e3, if_neg (by omega)]
set_option maxRecDepth 100000 in
set_option maxHeartbeats 1000000 in
theorem values_one (p : Nat) (a : Nat → Nat) (x g : Nat) (w : World) (kg : Blk w g 22 (fillC 1 a)) :
    Calls Tryz.prog 115 #[fv p, .slice (some ⟨g, 0, none⟩) 1 1, .int .u64 (x : Int)] w fun e w' => e = .returned (.tuple #[]) ∧ Blk w' g 22 (fillC 1 a) ∧ w.grownBy w' (some g) := by
  have lg := kg.lt
  have hb0 : Below w.heap.size w (w.alloc (.cells #[.int .u64 (p : Int)] 96)) := (Below.refl _ _).alloc (Nat.le_refl _) _
  replace kg := kg.below hb0 lg
  unfold fv
  go_enter Tryz.func115, Tryz.ntmps115
  go_wp2_with fail
  exact bodyPost_ret (v := .tuple #[]) (by simp [results, Tryz.results115, go_sem]) rfl ⟨rfl, kg, grown_below (grown_refl' w _) hb0 (Nat.le_refl _)⟩
set_option maxRecDepth 100000 in
set_option maxHeartbeats 2000000 in
theorem values_step (p : Nat) (hp : okP p = true) (j : Nat) (hj : j + 1 ≤ 12) (IH0 : ∀ (a : Nat → Nat) (x g : Nat) (w : World), Blk w g 22 (fillC (2 ^ j) a) →
    Calls Tryz.prog 115 #[fv p, .slice (some ⟨g, 0, none⟩) (2 ^ j) (2 ^ j), .int .u64 (x : Int)] w fun e w' => e = .returned (.tuple #[]) ∧ Blk w' g 22 (fillC (2 ^ j) (fftP p j a x)) ∧ w.grownBy w' (some g))
    (a : Nat → Nat) (x g : Nat) (w : World) (kg : Blk w g 22 (fillC (2 ^ (j + 1)) a)) :
    Calls Tryz.prog 115 #[fv p, .slice (some ⟨g, 0, none⟩) (2 ^ (j + 1)) (2 ^ (j + 1)), .int .u64 (x : Int)] w fun e w' => e = .returned (.tuple #[]) ∧ Blk w' g 22 (fillC (2 ^ (j + 1)) (fftP p (j + 1) a x)) ∧ w.grownBy w' (some g) := by
  have IH := Lib.hid IH0
  clear IH0
  have HM := Lib.hid (fun a b w => fMul_any p a b w hp)
  have HA := Lib.hid (fun a b w => fAdd_any p a b w hp)
  have HS := Lib.hid (fun a b w => fSub_any p a b w hp)
  have hh : 2 ^ j ≤ 2048 := Nat.pow_le_pow_right (n := 2) (by omega) (show j ≤ 11 by omega)
  have hn2 : 2 ^ (j + 1) = 2 * 2 ^ j := by rw [Nat.pow_succ, Nat.mul_comm]
  have h1 : 1 ≤ 2 ^ j := Nat.pow_pos (by omega)
  obtain ⟨Fn, hF⟩ : ∃ Fn, Fn = fftP p (j + 1) a x := ⟨_, rfl⟩
  obtain ⟨E, hE⟩ : ∃ E, E = fftP p j (fun i => a (2 * i)) (x * x % p) := ⟨_, rfl⟩
  obtain ⟨O, hO⟩ : ∃ O, O = fftP p j (fun i => a (2 * i + 1)) (x * x % p) := ⟨_, rfl⟩
  have HF1 := Lib.hid (show ∀ k, k < 2 ^ j → Fn k = (E k + powI p x k * O k % p) % p from fun k hk => by rw [hF, hE, hO]; simp [fftP, hk])
  have HF2 := Lib.hid (show ∀ k, k < 2 ^ j → Fn (k + 2 ^ j) = (E k + negP p (powI p x k * O k % p)) % p from fun k hk => by rw [hF, hE, hO]; simp only [fftP]; rw [if_neg (by omega), Nat.add_sub_cancel])
  rw [← hF]
  have HE := Lib.hid hE
  have HO := Lib.hid hO
  clear hF hE hO
  generalize 2 ^ (j + 1) = n at *
  generalize 2 ^ j = h at *
  have lg := kg.lt
  have kf := Blk.new w 96 #[.int .u64 (p : Int)]
  have hb0 : Below w.heap.size w (w.alloc (.cells #[.int .u64 (p : Int)] 96)) := (Below.refl _ _).alloc (Nat.le_refl _) _
  replace kg := kg.below hb0 lg
  have s0 : (w.alloc (.cells #[.int .u64 (p : Int)] 96)).heap.size = w.heap.size + 1 := by simp
  unfold fv at *
  have d1 : decide ((n : Int) < 2) = false := decide_eq_false (by omega)
  have e1 : (n : Int) / 2 = (h : Int) := by omega
  have e2 : (n : Int).tdiv 2 = (h : Int) := by rw [Int.tdiv_eq_ediv_of_nonneg (by omega)]; exact e1
  have e3 : IntKind.i64.wrap (h : Int) = (h : Int) := wr_i64 _ (by omega) (by omega)
  have g0 : (0 : Int) ≤ (n : Int) := by omega
  have g1 : (n : Int) ≤ 4096 := by omega
  have g3 : (0 : Int) ≤ (h : Int) := by omega
  have g4 : (h : Int) ≤ 2048 := by omega
  have g5' : n ≤ 4096 := by omega
  have g6 : h ≤ 2048 := by omega
  have HN := Lib.hid hn2
  clear hn2 hh
  have mk := mk_words h (by omega)
  go_enter Tryz.func115, Tryz.ntmps115
  go_upto_region 3 with fail
  generalize w.alloc _ = w1 at kf kg hb0 s0 ⊢
  refine wpL_begin (From w1.heap.size) [0, 1, 3, 4] 4 (by kernel_rfl) (by kernel_rfl) ?_
  refine wpL_startK (from_moves w1.heap.size) ?_
  intro Wc HWc hacc
  repeat (first | (refine wpL_skip (from_moves w1.heap.size) rfl rfl (fun _ _ _ h => h) ?_ ; simp only [Act.put, List.setIfInBounds_toArray, List.set_cons_zero, List.set_cons_succ]) | (refine wpL_light (v := ?_) (from_moves w1.heap.size) rfl rfl (fun _ _ _ h => h) ?_ ?_ ; rotate_left ; (· (intro w' hR ; (first | have hcells := from_cellsD ((from_moves w1.heap.size).trans _ _ _ hacc hR) | skip) ; go_simp ; try with_reducible rfl)) ; simp only [Act.put, List.setIfInBounds_toArray, List.set_cons_zero, List.set_cons_succ]))
  have hbW : Below w1.heap.size w1 Wc := by rw [HWc.out]; exact (Below.refl _ _).drew
  have hNc : w1.heap.size ≤ Wc.heap.size := hbW.size
  refine wpL_own (from_moves w1.heap.size) [⟨2, [], []⟩, ⟨5, [], []⟩, ⟨6, [2], []⟩] [(2, BlkAt 22 (fun _ => fillC h fun _ => 0) (mkS h) 2), (5, BlkAt 22 (fun _ => fillC h fun _ => 0) (mkS h) 5), (6, ValAt (fun vs => vs 2) 6)] [(some 20, 2), (some 23, 5), (some 7, 6)] [7] [7] (by kernel_rfl) (by kernel_rfl) (by first | exact Nat.le_refl _ | omega) (fun w1 h1 => h1) ?_ ?_ ?_
  · exact List.forall_mem_cons.2 ⟨stays_blk rfl (fun _ _ _ => rfl), List.forall_mem_cons.2 ⟨stays_blk rfl (fun _ _ _ => rfl), List.forall_mem_cons.2 ⟨stays_val rfl (fun vs us h => by simp only [h 2 (by decide)]), List.forall_mem_nil _⟩⟩⟩
  · refine List.forall_mem_cons.2 ⟨?_, List.forall_mem_cons.2 ⟨?_, List.forall_mem_cons.2 ⟨?_, List.forall_mem_nil _⟩⟩⟩
    · refine task_mk [] rfl (by kernel_rfl) ?_
      intro w1 vs F hb1 hd hdis
      clear hd
      unfold puts
      simp only [List.foldl]
      change Does _ _ _ fun v w' => Near _ w1 w' F [] ∧ BlkAt 22 (fun _ => fillC h fun _ => 0) (mkS h) 2 (upd vs 2 v) (Grown w1 w' F []) w'
      have hB1 := Nat.le_trans hNc hb1.size
      exact does_val (v := .slice (some ⟨w1.heap.size, 0, none⟩) h h) (w' := w1.alloc (.cells (fillC h fun _ => 0) 22)) (by go_simp <;> rfl) ⟨near_below ((Below.refl _ _).alloc (Nat.le_refl _) _) hB1 _ _, blk_of (Blk.new _ _ _) (Nat.le_refl _)⟩
    · refine task_mk [] rfl (by kernel_rfl) ?_
      intro w1 vs F hb1 hd hdis
      clear hd
      unfold puts
      simp only [List.foldl]
      change Does _ _ _ fun v w' => Near _ w1 w' F [] ∧ BlkAt 22 (fun _ => fillC h fun _ => 0) (mkS h) 5 (upd vs 5 v) (Grown w1 w' F []) w'
      have hB1 := Nat.le_trans hNc hb1.size
      exact does_val (v := .slice (some ⟨w1.heap.size, 0, none⟩) h h) (w' := w1.alloc (.cells (fillC h fun _ => 0) 22)) (by go_simp <;> rfl) ⟨near_below ((Below.refl _ _).alloc (Nat.le_refl _) _) hB1 _ _, blk_of (Blk.new _ _ _) (Nat.le_refl _)⟩
    · refine task_mk [(some 20, 2)] rfl (by kernel_rfl) ?_
      intro w1 vs F hb1 hd hdis
      have d2 : BlkAt 22 (fun _ => fillC h fun _ => 0) (mkS h) 2 vs (F 2) w1 ∧ ∀ b, F 2 b → b < w1.heap.size ∧ _ ≤ b := hd 2 (by decide)
      clear hd
      unfold puts
      simp only [List.foldl]
      change Does _ _ _ fun v w' => Near _ w1 w' F [] ∧ ValAt (fun vs => vs 2) 6 (upd vs 6 v) (Grown w1 w' F []) w'
      obtain ⟨g2, e2', -⟩ := d2.1
      exact does_val (v := vs 2) (w' := w1) (by rw [e2']; go_simp <;> rfl) ⟨near_same _ _ _ _, rfl⟩
  intro wf vs F hbf hf hdis
  have f2 : BlkAt 22 (fun _ => fillC h fun _ => 0) (mkS h) 2 vs (F 2) wf ∧ ∀ b, F 2 b → b < wf.heap.size ∧ _ ≤ b := hf _ (.head _) (by decide)
  have f5 : BlkAt 22 (fun _ => fillC h fun _ => 0) (mkS h) 5 vs (F 5) wf ∧ ∀ b, F 5 b → b < wf.heap.size ∧ _ ≤ b := hf _ (.tail _ (.head _)) (by decide)
  have f6 : ValAt (fun vs => vs 2) 6 vs (F 6) wf ∧ ∀ b, F 6 b → b < wf.heap.size ∧ _ ≤ b := hf _ (.tail _ (.tail _ (.head _))) (by decide)
  clear hf
  unfold puts
  simp only [List.foldl]
  obtain ⟨⟨g2, e2, h2, k2⟩, b2⟩ := f2
  have y2 := (b2 _ h2).2
  obtain ⟨⟨g5, e5, h5, k5⟩, b5⟩ := f5
  have y5 := (b5 _ h5).2
  have e6 : vs 6 = vs 2 := f6.1
  have n2_5 : g2 ≠ g5 := fun e => hdis 2 5 _ (by decide) h2 (by rw [e]; exact h5)
  simp only [e2] at e6
  simp only [e2, e5, e6]
  clear b2 b5 f6 e2 e5 e6 h2 h5
  try dsimp only [mkS]
  try dsimp only [mkP]
  clear hdis
  repeat (first | (refine wpO_skip (from_moves w1.heap.size) rfl rfl (fun _ _ _ h => h) ?_ ; simp only [Act.put, List.setIfInBounds_toArray, List.set_cons_zero, List.set_cons_succ]) | (refine wpO_light (v := ?_) (from_moves w1.heap.size) rfl rfl (fun _ _ _ h => h) ?_ ?_ ; rotate_left ; (· (intro w' hR ; (first | have hcells := from_cellsD ((from_moves w1.heap.size).trans _ _ _ hacc hR) | skip) ; go_simp ; try with_reducible rfl)) ; simp only [Act.put, List.setIfInBounds_toArray, List.set_cons_zero, List.set_cons_succ]))
  refine wpO_done ?_
  replace kf : Blk wf w.heap.size _ _ := (kf.below hbW kf.lt).below hbf (by omega)
  replace kg : Blk wf g _ _ := (kg.below hbW kg.lt).below hbf (by omega)
  replace hb0 : Below w.heap.size w wf := (below_chain hb0 hbW).trans (hbf.mono (by omega))
  have hNf : w.heap.size + 1 ≤ wf.heap.size := by have := hbf.size; omega
  clear hbW hbf HWc mk hacc
  rw [s0] at y2 y5
  clear hNc s0
  rw [← upTo_zero _ (fun i => a (2 * i))] at k2
  rw [← upTo_zero _ (fun i => a (2 * i + 1))] at k5
  go_wp2_with fail
  go_loopw [26] (fun y wr => ∃ i : Nat, i ≤ h ∧ y = .int .i64 (i : Int) ∧ Blk wr w.heap.size 96 #[.int .u64 (p : Int)] ∧ Blk wr g 22 (fillC n a) ∧ Blk wr g2 22 (fillC h (upTo (fun i => a (2 * i)) (fun _ => 0) i)) ∧ Blk wr g5 22 (fillC h (upTo (fun i => a (2 * i + 1)) (fun _ => 0) i)) ∧ Below w.heap.size w wr ∧ w.heap.size + 1 ≤ wr.heap.size) (fun y _ => h - (intOf y).toNat)
  case atStart => exact ⟨0, Nat.zero_le _, rfl, kf, kg, k2, k5, hb0, hNf⟩
  case round =>
    clear kf kg k2 k5 hb0 hNf
    obtain ⟨i, hi, rfl, kf, kg, k2, k5, hb0, hNf⟩ := hrel
    by_cases hlt : i < h
    · have q1 : (0 : Int) ≤ (i : Int) := by omega
      have q2 : (i : Int) < (h : Int) := by omega
      obtain ⟨i2, hi2⟩ : ∃ i2, i2 = 2 * i := ⟨_, rfl⟩
      obtain ⟨i3, hi3⟩ : ∃ i3, i3 = 2 * i + 1 := ⟨_, rfl⟩
      have x1 : (2 : Int) * (i : Int) = (i2 : Int) := by omega
      have x2 : IntKind.i64.wrap (i2 : Int) = (i2 : Int) := wr_i64 _ (by omega) (by omega)
      have x3 : (i2 : Int) + 1 = (i3 : Int) := by omega
      have x4 : IntKind.i64.wrap (i3 : Int) = (i3 : Int) := wr_i64 _ (by omega) (by omega)
      have hl2 : i2 < n := by have := HN.out; omega
      have hl3 : i3 < n := by have := HN.out; omega
      have x5 : (i2 : Int) < (n : Int) := by omega
      have x6 : (i3 : Int) < (n : Int) := by omega
      have ca := kg.cell i2
      rw [fill_get _ hl2] at ca
      have cb := kg.cell i3
      rw [fill_get _ hl3] at cb
      obtain ⟨va, hva⟩ : ∃ va, va = a i2 := ⟨_, rfl⟩
      obtain ⟨vb, hvb⟩ : ∃ vb, vb = a i3 := ⟨_, rfl⟩
      have HVA := Lib.hid (show va = (fun i => a (2 * i)) i by rw [hva, hi2])
      have HVB := Lib.hid (show vb = (fun i => a (2 * i + 1)) i by rw [hvb, hi3])
      rw [← hva] at ca
      rw [← hvb] at cb
      have HI2 := Lib.hid hi2
      clear hva hvb hi2 hi3
      have lg' : g < w.heap.size + 1 := by omega
      go_upto_region 7 with fail
      refine wpO_begin (From (w.heap.size+1)) [16, 18] [0, 1, 2, 3, 4, 5, 6, 7, 8, 9, 10, 11, 12, 13, 14, 15, 16, 17, 18] (by kernel_rfl) (by kernel_rfl) ?_
      refine wpO_startK (from_moves (w.heap.size+1)) ?_
      intro Wc HWc hacc
      repeat (first | (refine wpO_skip (from_moves (w.heap.size+1)) rfl rfl (fun _ _ _ h => h) ?_ ; simp only [Act.put, List.setIfInBounds_toArray, List.set_cons_zero, List.set_cons_succ]) | (refine wpO_light (v := ?_) (from_moves (w.heap.size+1)) rfl rfl (fun _ _ _ h => h) ?_ ?_ ; rotate_left ; (· (intro w' hR ; (first | have hcells := from_cellsD ((from_moves (w.heap.size+1)).trans _ _ _ hacc hR) | skip) ; go_simp ; try with_reducible rfl)) ; simp only [Act.put, List.setIfInBounds_toArray, List.set_cons_zero, List.set_cons_succ]))
      refine wpO_heavy (from_moves (w.heap.size+1)) rfl rfl rfl ?_
      have hxd : Below wr.heap.size wr Wc := by rw [HWc.out]; exact (Below.refl _ _).drew
      replace kf := kf.below hxd kf.lt
      replace kg := kg.below hxd kg.lt
      replace k2 := k2.below hxd k2.lt
      replace k5 := k5.below hxd k5.lt
      replace hb0 := below_chain hb0 hxd
      replace hNf := Nat.le_trans hNf hxd.size
      clear hxd HWc ca cb
      have c2 := k2.cell i
      rw [upTo_get _ _ hlt] at c2
      have f2 := k2.frozen
      go_simp
      refine ⟨from_set _ _ y2, ?_⟩
      have hg := set_only (w := Wc) g2 i (.int .u64 (va : Int))
      replace kf := kf.grown hg (fun e => by have := Option.some.inj e; first | omega | (exact absurd this (by assumption)) | (exact absurd this.symm (by assumption)))
      replace kg := kg.grown hg (fun e => by have := Option.some.inj e; first | omega | (exact absurd this (by assumption)) | (exact absurd this.symm (by assumption)))
      replace k5 := k5.grown hg (fun e => by have := Option.some.inj e; first | omega | (exact absurd this (by assumption)) | (exact absurd this.symm (by assumption)))
      replace hb0 := hb0.trans (below_of_only hg hb0.size (by omega))
      replace hNf := Nat.le_trans hNf hg.size
      replace k2 := k2.set_ i (.int .u64 (va : Int))
      rw [upTo_set (F := fun i => a (2 * i)) HVA.out] at k2
      clear hg f2 c2 hacc
      generalize Wc.setCell _ _ = wb at kf kg k2 k5 hb0 hNf ⊢
      try simp only [Act.put, List.setIfInBounds_toArray, List.set_cons_zero, List.set_cons_succ]
      have hacc := (from_moves (w.heap.size + 1)).refl wb
      repeat (first | (refine wpO_skip (from_moves (w.heap.size+1)) rfl rfl (fun _ _ _ h => h) ?_ ; simp only [Act.put, List.setIfInBounds_toArray, List.set_cons_zero, List.set_cons_succ]) | (refine wpO_light (v := ?_) (from_moves (w.heap.size+1)) rfl rfl (fun _ _ _ h => h) ?_ ?_ ; rotate_left ; (· (intro w' hR ; (first | have hcells := from_cellsD ((from_moves (w.heap.size+1)).trans _ _ _ hacc hR) | skip) ; go_simp ; try with_reducible rfl)) ; simp only [Act.put, List.setIfInBounds_toArray, List.set_cons_zero, List.set_cons_succ]))
      have c5 := k5.cell i
      rw [upTo_get _ _ hlt] at c5
      have f5 := k5.frozen
      refine wpO_heavy (from_moves (w.heap.size+1)) rfl rfl rfl ?_
      go_simp
      refine ⟨from_set _ _ y5, ?_⟩
      have hg := set_only (w := wb) g5 i (.int .u64 (vb : Int))
      replace kf := kf.grown hg (fun e => by have := Option.some.inj e; first | omega | (exact absurd this (by assumption)) | (exact absurd this.symm (by assumption)))
      replace kg := kg.grown hg (fun e => by have := Option.some.inj e; first | omega | (exact absurd this (by assumption)) | (exact absurd this.symm (by assumption)))
      replace k2 := k2.grown hg (fun e => by have := Option.some.inj e; first | omega | (exact absurd this (by assumption)) | (exact absurd this.symm (by assumption)))
      replace hb0 := hb0.trans (below_of_only hg hb0.size (by omega))
      replace hNf := Nat.le_trans hNf hg.size
      replace k5 := k5.set_ i (.int .u64 (vb : Int))
      rw [upTo_set (F := fun i => a (2 * i + 1)) HVB.out] at k5
      clear hg f5 c5 hacc
      generalize wb.setCell _ _ = wc at kf kg k2 k5 hb0 hNf ⊢
      try simp only [Act.put, List.setIfInBounds_toArray, List.set_cons_zero, List.set_cons_succ]
      refine wpO_done ?_
      go_wp2
      go_roundw
      case rel => exact ⟨i + 1, by omega, by go_num, kf, kg, k2, k5, hb0, hNf⟩
      case measure => simp [intOf]; omega
    · obtain rfl : h = i := by omega
      rw [upTo_all] at k2 k5
      obtain ⟨sq, hsq⟩ : ∃ sq, sq = x * x % p := ⟨_, rfl⟩
      have HQ := Lib.hid (fun w => by have := HM.out x x w; rw [← hsq] at this; exact this)
      rw [← hsq] at HE HO
      clear hsq
      have cf := kf.cell
      go_wp2_with fail
      refine (HQ.out _).mono ?_
      rintro e w3 ⟨rfl, hb3⟩
      replace kf := kf.below hb3 kf.lt
      replace kg := kg.below hb3 kg.lt
      replace k2 := k2.below hb3 k2.lt
      replace k5 := k5.below hb3 k5.lt
      replace hb0 := below_chain hb0 hb3
      replace hNf := Nat.le_trans hNf hb3.size
      clear hb3 cf
      have cf := kf.cell
      go_wp2_with fail
      refine (IH.out _ sq g2 _ k2).mono ?_
      rintro e w4 ⟨rfl, k2', hg4⟩
      rw [← HE.out] at k2'
      replace kf := kf.grown hg4 (fun e => by have := Option.some.inj e; first | omega | (exact absurd this (by assumption)) | (exact absurd this.symm (by assumption)))
      replace kg := kg.grown hg4 (fun e => by have := Option.some.inj e; first | omega | (exact absurd this (by assumption)) | (exact absurd this.symm (by assumption)))
      replace k5 := k5.grown hg4 (fun e => by have := Option.some.inj e; first | omega | (exact absurd this (by assumption)) | (exact absurd this.symm (by assumption)))
      replace hb0 := hb0.trans (below_of_only hg4 hb0.size (by omega))
      replace hNf := Nat.le_trans hNf hg4.size
      clear hg4 cf k2
      have cf := kf.cell
      go_wp2_with fail
      refine (IH.out _ sq g5 _ k5).mono ?_
      rintro e w5 ⟨rfl, k5', hg5⟩
      rw [← HO.out] at k5'
      replace kf := kf.grown hg5 (fun e => by have := Option.some.inj e; first | omega | (exact absurd this (by assumption)) | (exact absurd this.symm (by assumption)))
      replace kg := kg.grown hg5 (fun e => by have := Option.some.inj e; first | omega | (exact absurd this (by assumption)) | (exact absurd this.symm (by assumption)))
      replace k2' := k2'.grown hg5 (fun e => by have := Option.some.inj e; first | omega | (exact absurd this (by assumption)) | (exact absurd this.symm (by assumption)))
      replace hb0 := hb0.trans (below_of_only hg5 hb0.size (by omega))
      replace hNf := Nat.le_trans hNf hg5.size
      clear hg5 cf k5 hlt hi
      have hgr : w.grownBy w5 (some g) := grown_below (grown_refl' w _) hb0 (Nat.le_refl _)
      clear hb0
      rw [← upTo2_zero _ Fn _ h] at kg
      have hgg2 : g ≠ g2 := by omega
      have hgg5 : g ≠ g5 := by omega
      clear IH HE HO HQ
      go_wp2_with fail
      go_loopw [11, 61] (fun pv y wr => ∃ (i pw : Nat), i ≤ h ∧ y = .int .i64 (i : Int) ∧ pv = .int .u64 (pw : Int) ∧ Hid (pw = powI p x i) ∧ Blk wr w.heap.size 96 #[.int .u64 (p : Int)] ∧ Blk wr g 22 (fillC n (upTo2 Fn a h i)) ∧ Blk wr g2 22 (fillC h E) ∧ Blk wr g5 22 (fillC h O) ∧ w.grownBy wr (some g)) (fun _ y _ => h - (intOf y).toNat)
      case atStart => exact ⟨0, 1, Nat.zero_le _, rfl, rfl, rfl, kf, kg, k2', k5', hgr⟩
      case round =>
        clear kf kg k2' k5' hgr hNf
        obtain ⟨i, pw, hi, rfl, rfl, HPW, kf, kg, k2, k5, hgr⟩ := hrel
        by_cases hlt : i < h
        · have q1 : (0 : Int) ≤ (i : Int) := by omega
          have q2 : (i : Int) < (h : Int) := by omega
          obtain ⟨ih, hih⟩ : ∃ ih, ih = i + h := ⟨_, rfl⟩
          have x1 : (i : Int) + (h : Int) = (ih : Int) := by omega
          have x2 : IntKind.i64.wrap (ih : Int) = (ih : Int) := wr_i64 _ (by omega) (by omega)
          have hl1 : i < n := by have := HN.out; omega
          have hl2 : ih < n := by have := HN.out; omega
          have x5 : (i : Int) < (n : Int) := by omega
          have x6 : (ih : Int) < (n : Int) := by omega
          obtain ⟨ev, hev⟩ : ∃ ev, ev = E i := ⟨_, rfl⟩
          obtain ⟨od, hod⟩ : ∃ od, od = O i := ⟨_, rfl⟩
          obtain ⟨pt, hpt⟩ : ∃ pt, pt = pw * od % p := ⟨_, rfl⟩
          obtain ⟨s1, hs1⟩ : ∃ s1, s1 = (ev + pt) % p := ⟨_, rfl⟩
          obtain ⟨s2, hs2⟩ : ∃ s2, s2 = (ev + negP p pt) % p := ⟨_, rfl⟩
          obtain ⟨np, hnp⟩ : ∃ np, np = pw * x % p := ⟨_, rfl⟩
          have HS1 := Lib.hid (show s1 = Fn i by rw [hs1, hpt, hev, hod, HPW.out, HF1.out i hlt])
          have HS2 := Lib.hid (show s2 = Fn ih by rw [hs2, hpt, hev, hod, HPW.out, hih, HF2.out i hlt])
          have HNP := Lib.hid (show np = powI p x (i + 1) by rw [hnp, HPW.out]; rfl)
          have HC1 := Lib.hid (fun w => by have := HM.out pw od w; rw [← hpt] at this; exact this)
          have HC2 := Lib.hid (fun w => by have := HA.out ev pt w; rw [← hs1] at this; exact this)
          have HC3 := Lib.hid (fun w => by have := HS.out ev pt w; rw [← hs2] at this; exact this)
          have HC4 := Lib.hid (fun w => by have := HM.out pw x w; rw [← hnp] at this; exact this)
          have HEV := Lib.hid hev
          have HIH := Lib.hid hih
          have co := k5.cell i
          rw [fill_get _ hlt, ← hod] at co
          clear hev hod hpt hs1 hs2 hnp hih
          have cf := kf.cell
          have lf := kf.lt
          have lo := k5.lt
          go_upto_region 16 with fail
          refine wpGO_begin (Later) (later_moves) [] [] [0, 1, 2, 3, 4, 5, 6, 7] (by kernel_rfl) (by kernel_rfl) ?_
          refine wpGO_start (later_moves) ?_
          intro Wc hacc
          repeat (first | (refine wpGO_skip (later_moves) rfl rfl rfl rfl (fun _ _ _ h => h) ?_ ; simp only [Act.put, List.setIfInBounds_toArray, List.set_cons_zero, List.set_cons_succ]) | (refine wpGO_light (v := ?_) (later_moves) rfl rfl rfl rfl (fun _ _ _ h => h) ?_ ?_ ; rotate_left ; (· (intro w' hR ; (first | have hcells := later_cellsD ((later_moves).trans _ _ _ hacc hR) | skip) ; go_simp ; try with_reducible rfl)) ; simp only [Act.put, List.setIfInBounds_toArray, List.set_cons_zero, List.set_cons_succ]))
          refine wpGO_call (later_moves) rfl rfl rfl rfl (fun _ _ _ h => h) (fun _ => by go_simp <;> rfl) (fun w' hR => HC1.out _) ?_
          simp only [Act.put, List.setIfInBounds_toArray, List.set_cons_zero, List.set_cons_succ]
          repeat (first | (refine wpGO_skip (later_moves) rfl rfl rfl rfl (fun _ _ _ h => h) ?_ ; simp only [Act.put, List.setIfInBounds_toArray, List.set_cons_zero, List.set_cons_succ]) | (refine wpGO_light (v := ?_) (later_moves) rfl rfl rfl rfl (fun _ _ _ h => h) ?_ ?_ ; rotate_left ; (· (intro w' hR ; (first | have hcells := later_cellsD ((later_moves).trans _ _ _ hacc hR) | skip) ; go_simp ; try with_reducible rfl)) ; simp only [Act.put, List.setIfInBounds_toArray, List.set_cons_zero, List.set_cons_succ]))
          refine wpGO_done rfl ?_
          intro wd hRd
          replace hacc := (later_moves).trans _ _ _ hacc hRd
          clear hRd
          have hxd := below_chain (Below.refl wr.heap.size wr).drew hacc
          have hgr2 := grown_below hgr hxd hgr.size
          replace kf := kf.below hxd kf.lt
          replace kg := kg.below hxd kg.lt
          replace k2 := k2.below hxd k2.lt
          replace k5 := k5.below hxd k5.lt
          clear hxd hacc cf lf lo co hgr
          have ce := k2.cell i
          rw [fill_get _ hlt, ← HEV.out] at ce
          have cf := kf.cell
          have lf := kf.lt
          have lo := k2.lt
          go_upto_region 17 with fail
          refine wpGO_begin (Later) (later_moves) [10] [10] [0, 1, 2, 3, 4, 5, 6, 7, 8, 9, 10] (by kernel_rfl) (by kernel_rfl) ?_
          refine wpGO_start (later_moves) ?_
          intro Wc hacc
          repeat (first | (refine wpGO_skip (later_moves) rfl rfl rfl rfl (fun _ _ _ h => h) ?_ ; simp only [Act.put, List.setIfInBounds_toArray, List.set_cons_zero, List.set_cons_succ]) | (refine wpGO_light (v := ?_) (later_moves) rfl rfl rfl rfl (fun _ _ _ h => h) ?_ ?_ ; rotate_left ; (· (intro w' hR ; (first | have hcells := later_cellsD ((later_moves).trans _ _ _ hacc hR) | skip) ; go_simp ; try with_reducible rfl)) ; simp only [Act.put, List.setIfInBounds_toArray, List.set_cons_zero, List.set_cons_succ]) | (refine wpGO_free (v := ?_) rfl rfl rfl rfl (fun _ _ _ h => h) ?_ ?_ ; rotate_left ; (· (intro w' ; go_simp ; try with_reducible rfl)) ; simp only [Act.put, List.setIfInBounds_toArray, List.set_cons_zero, List.set_cons_succ]))
          refine wpGO_call (later_moves) rfl rfl rfl rfl (fun _ _ _ h => h) (fun _ => by go_simp <;> rfl) (fun w' hR => HC2.out _) ?_
          simp only [Act.put, List.setIfInBounds_toArray, List.set_cons_zero, List.set_cons_succ]
          repeat (first | (refine wpGO_skip (later_moves) rfl rfl rfl rfl (fun _ _ _ h => h) ?_ ; simp only [Act.put, List.setIfInBounds_toArray, List.set_cons_zero, List.set_cons_succ]) | (refine wpGO_light (v := ?_) (later_moves) rfl rfl rfl rfl (fun _ _ _ h => h) ?_ ?_ ; rotate_left ; (· (intro w' hR ; (first | have hcells := later_cellsD ((later_moves).trans _ _ _ hacc hR) | skip) ; go_simp ; try with_reducible rfl)) ; simp only [Act.put, List.setIfInBounds_toArray, List.set_cons_zero, List.set_cons_succ]) | (refine wpGO_free (v := ?_) rfl rfl rfl rfl (fun _ _ _ h => h) ?_ ?_ ; rotate_left ; (· (intro w' ; go_simp ; try with_reducible rfl)) ; simp only [Act.put, List.setIfInBounds_toArray, List.set_cons_zero, List.set_cons_succ]))
          refine wpGO_heavy rfl rfl rfl rfl ?_
          intro wh hRh
          replace hacc := (later_moves).trans _ _ _ hacc hRh
          have hxd := below_chain (Below.refl wd.heap.size wd).drew hacc
          have hgr3 := grown_below hgr2 hxd hgr2.size
          replace kf := kf.below hxd kf.lt
          replace kg := kg.below hxd kg.lt
          replace k2 := k2.below hxd k2.lt
          replace k5 := k5.below hxd k5.lt
          clear hxd hacc hRh cf lf lo ce hgr2
          obtain ⟨old, ho⟩ : ∃ old, (fillC n (upTo2 Fn a h i))[i]? = some old := ⟨_, fill_get _ hl1⟩
          have c2 := kg.cell i
          rw [ho] at c2
          have f2 := kg.frozen
          go_simp
          refine ⟨fun h => Bool.noConfusion h, ?_⟩
          have hg := set_only (w := wh) g i (.int .u64 (s1 : Int))
          replace kf := kf.grown hg (fun e => by have := Option.some.inj e; first | omega | (exact absurd this (by assumption)) | (exact absurd this.symm (by assumption)))
          replace k2 := k2.grown hg (fun e => by have := Option.some.inj e; first | omega | (exact absurd this (by assumption)) | (exact absurd this.symm (by assumption)))
          replace k5 := k5.grown hg (fun e => by have := Option.some.inj e; first | omega | (exact absurd this (by assumption)) | (exact absurd this.symm (by assumption)))
          replace kg := kg.set_ i (.int .u64 (s1 : Int))
          have hgr4 := grown_step hgr3 hg (fun _ e => .inl e)
          clear hg f2 c2 ho hgr3
          generalize wh.setCell _ _ = we at kf kg k2 k5 hgr4 ⊢
          refine wpGO_doneP rfl ?_
          have ce := k2.cell i
          rw [fill_get _ hlt, ← HEV.out] at ce
          have cf := kf.cell
          have lf := kf.lt
          have lo := k2.lt
          go_upto_region 18 with fail
          refine wpGO_begin (Later) (later_moves) [13] [13] [0, 1, 2, 3, 4, 5, 6, 7, 8, 9, 10, 11, 12, 13] (by kernel_rfl) (by kernel_rfl) ?_
          refine wpGO_start (later_moves) ?_
          intro Wc hacc
          repeat (first | (refine wpGO_skip (later_moves) rfl rfl rfl rfl (fun _ _ _ h => h) ?_ ; simp only [Act.put, List.setIfInBounds_toArray, List.set_cons_zero, List.set_cons_succ]) | (refine wpGO_light (v := ?_) (later_moves) rfl rfl rfl rfl (fun _ _ _ h => h) ?_ ?_ ; rotate_left ; (· (intro w' hR ; (first | have hcells := later_cellsD ((later_moves).trans _ _ _ hacc hR) | skip) ; go_simp ; try with_reducible rfl)) ; simp only [Act.put, List.setIfInBounds_toArray, List.set_cons_zero, List.set_cons_succ]) | (refine wpGO_free (v := ?_) rfl rfl rfl rfl (fun _ _ _ h => h) ?_ ?_ ; rotate_left ; (· (intro w' ; go_simp ; try with_reducible rfl)) ; simp only [Act.put, List.setIfInBounds_toArray, List.set_cons_zero, List.set_cons_succ]))
          refine wpGO_call (later_moves) rfl rfl rfl rfl (fun _ _ _ h => h) (fun _ => by go_simp <;> rfl) (fun w' hR => HC3.out _) ?_
          simp only [Act.put, List.setIfInBounds_toArray, List.set_cons_zero, List.set_cons_succ]
          repeat (first | (refine wpGO_skip (later_moves) rfl rfl rfl rfl (fun _ _ _ h => h) ?_ ; simp only [Act.put, List.setIfInBounds_toArray, List.set_cons_zero, List.set_cons_succ]) | (refine wpGO_light (v := ?_) (later_moves) rfl rfl rfl rfl (fun _ _ _ h => h) ?_ ?_ ; rotate_left ; (· (intro w' hR ; (first | have hcells := later_cellsD ((later_moves).trans _ _ _ hacc hR) | skip) ; go_simp ; try with_reducible rfl)) ; simp only [Act.put, List.setIfInBounds_toArray, List.set_cons_zero, List.set_cons_succ]) | (refine wpGO_free (v := ?_) rfl rfl rfl rfl (fun _ _ _ h => h) ?_ ?_ ; rotate_left ; (· (intro w' ; go_simp ; try with_reducible rfl)) ; simp only [Act.put, List.setIfInBounds_toArray, List.set_cons_zero, List.set_cons_succ]))
          refine wpGO_heavy rfl rfl rfl rfl ?_
          intro wh hRh
          replace hacc := (later_moves).trans _ _ _ hacc hRh
          have hxd := below_chain (Below.refl we.heap.size we).drew hacc
          have hgr5 := grown_below hgr4 hxd hgr4.size
          replace kf := kf.below hxd kf.lt
          replace kg := kg.below hxd kg.lt
          replace k2 := k2.below hxd k2.lt
          replace k5 := k5.below hxd k5.lt
          clear hxd hacc hRh cf lf lo ce hgr4
          obtain ⟨old2, ho⟩ : ∃ old, ((fillC n (upTo2 Fn a h i)).setIfInBounds i (.int .u64 (s1 : Int)))[ih]? = some old := by
            rw [Array.getElem?_setIfInBounds_ne (by have := HIH.out; omega)]
            exact ⟨_, fill_get _ hl2⟩
          have c2 := kg.cell ih
          rw [ho] at c2
          have f2 := kg.frozen
          go_simp
          refine ⟨fun h => Bool.noConfusion h, ?_⟩
          have hg := set_only (w := wh) g ih (.int .u64 (s2 : Int))
          replace kf := kf.grown hg (fun e => by have := Option.some.inj e; first | omega | (exact absurd this (by assumption)) | (exact absurd this.symm (by assumption)))
          replace k2 := k2.grown hg (fun e => by have := Option.some.inj e; first | omega | (exact absurd this (by assumption)) | (exact absurd this.symm (by assumption)))
          replace k5 := k5.grown hg (fun e => by have := Option.some.inj e; first | omega | (exact absurd this (by assumption)) | (exact absurd this.symm (by assumption)))
          replace kg := kg.set_ ih (.int .u64 (s2 : Int))
          rw [upTo2_set hlt HS1.out HIH.out HS2.out] at kg
          have hgr6 := grown_step hgr5 hg (fun _ e => .inl e)
          clear hg f2 c2 ho hgr5
          generalize wh.setCell _ _ = wj at kf kg k2 k5 hgr6 ⊢
          refine wpGO_doneP rfl ?_
          have cf := kf.cell
          go_wp2_with fail
          refine (HC4.out _).mono ?_
          rintro e w9 ⟨rfl, hb9⟩
          have hgr7 := grown_below hgr6 hb9 hgr6.size
          replace kf := kf.below hb9 kf.lt
          replace kg := kg.below hb9 kg.lt
          replace k2 := k2.below hb9 k2.lt
          replace k5 := k5.below hb9 k5.lt
          clear hb9 cf hgr6
          go_wp2
          go_roundw
          case rel => exact ⟨i + 1, np, by omega, by go_num, rfl, HNP.out, kf, kg, k2, k5, hgr7⟩
          case measure => simp [intOf]; omega
        · obtain rfl : h = i := by omega
          rw [upTo2_all _ _ _ _ HN.out] at kg
          go_wp2
          exact bodyPost_end (v := .tuple #[]) (by simp [results, Tryz.results115, go_sem]) rfl ⟨rfl, kg, hgr⟩
theorem values_any (p : Nat) (hp : okP p = true) : ∀ (j : Nat), j ≤ 12 → ∀ (a : Nat → Nat) (x g : Nat) (w : World), Blk w g 22 (fillC (2 ^ j) a) →
    Calls Tryz.prog 115 #[fv p, .slice (some ⟨g, 0, none⟩) (2 ^ j) (2 ^ j), .int .u64 (x : Int)] w fun e w' => e = .returned (.tuple #[]) ∧ Blk w' g 22 (fillC (2 ^ j) (fftP p j a x)) ∧ w.grownBy w' (some g) := by
  intro j
  induction j with
  | zero => exact fun _ a x g w kg => values_one p a x g w kg
  | succ j ih => exact fun hj a x g w kg => values_step p hp j hj (ih (by omega)) a x g w kg
end Go.Proofs.YtakjnmojigechaaGreat
