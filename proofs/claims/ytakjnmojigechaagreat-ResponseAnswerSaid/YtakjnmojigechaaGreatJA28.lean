/- A part of the proof: TrD. No condition. -/
import Derived.Test.YtakjnmojigechaaGreatJA27

namespace Go.Proofs.YtakjnmojigechaaGreat
open Go.RowKit
def accP (p n : Nat) (l : List Nat) (s : Nat) : Nat → Nat → Nat
  | 0 => fun _ => 0
  | i + 1 => putF (accP p n l s i) (i % n) ((accP p n l s i (i % n) + l.getD i 0 * powI p s i % p) % p)
def evaP (p n j : Nat) (l : List Nat) (s : Nat) : Nat → Nat := fftP p j (accP p n l (s % p) l.length) (rootP p n)
set_option maxRecDepth 100000 in
set_option maxHeartbeats 2000000 in
theorem tEvaluate_any (p : Nat) (A : Option Addr) (m c n j s : Nat) (l : List Nat) (w : World) (hp : okP p = true) (hl : RWd w [.slice A m c] l) (hn : LenOk p n) (hj : n = 2 ^ j) (hs : s % p ≠ 0) (hm : m ≤ 8192) :
    Calls Tryz.prog 68 #[fv p, .slice A m c, .int .u64 (s : Int), .int .i64 (n : Int)] w fun e w' => ∃ g, e = .returned (.tuple #[.slice (some ⟨g, 0, none⟩) n n, .int .i64 0]) ∧ w.heap.size ≤ g ∧ Blk w' g 22 (fillC n (evaP p n j l s)) ∧ Below w.heap.size w w' := by
  have hn4 := hn.le
  have hn1 := hn.pos
  have hj12 : j ≤ 12 := by have := pow_le (j := j) (by omega); omega
  have HV := Lib.hid (fun w => fValid_any p w hp)
  have HR := Lib.hid (fun w => tRoot_any p n w hp hn)
  have HM := Lib.hid (fun a b w => fMul_any p a b w hp)
  have HA := Lib.hid (fun a b w => fAdd_any p a b w hp)
  have HD := Lib.hid (fun w => fReduce_any p s w hp)
  obtain ⟨r, hr⟩ : ∃ r, r = rootP p n := ⟨_, rfl⟩
  obtain ⟨x, hx⟩ : ∃ x, x = s % p := ⟨_, rfl⟩
  have HRES := Lib.hid (show evaP p n j l s = fftP p j (accP p n l x l.length) r by unfold evaP; rw [← hr, ← hx])
  rw [HRES.out]
  have HVA := Lib.hid (fun g w (k : Blk w g 22 (fillC n (accP p n l x l.length))) => by have := values_any p hp j hj12 (accP p n l x l.length) r g w (by rw [← hj]; exact k); rw [← hj] at this; exact this)
  rw [← hr] at HR
  rw [← hx] at HD hs
  obtain ⟨rfl, h1, h2, hlt, hrd⟩ := lw_at hl
  clear hr hx hj hn hl HRES
  generalize fftP p j (accP p n l x l.length) r = E at *
  unfold fv at *
  have kf := Blk.new w 96 #[.int .u64 (p : Int)]
  have hb0 : Below w.heap.size w (w.alloc (.cells #[.int .u64 (p : Int)] 96)) := (Below.refl _ _).alloc (Nat.le_refl _) _
  have gn : (n : Int) ≤ 4096 := by omega
  have gn1 : (1 : Int) ≤ (n : Int) := by omega
  have gn0 : (0 : Int) < (n : Int) := by omega
  have gn2 : ¬ ((n : Int) = 0) := by omega
  have gn3 : ¬ (n = 0) := by omega
  have gm : (l.length : Int) ≤ 8192 := by omega
  have d1 : ((x : Int) == 0) = false := by rw [beq_eq_false_iff_ne]; omega
  have d2 : decide ((8192 : Int) < (l.length : Int)) = false := decide_eq_false (by omega)
  have mk := mk_words n (by omega)
  clear hs
  go_enter Tryz.func68, Tryz.ntmps68
  go_wp2_with fail
  generalize w.alloc _ = w1 at kf hb0 ⊢
  refine (HV.out _).mono ?_
  rintro e w2 ⟨rfl, hb2⟩
  replace kf := kf.below hb2 kf.lt
  replace hb0 := below_chain hb0 hb2
  clear hb2
  have cf := kf.cell
  go_wp2_with fail
  refine (HR.out _).mono ?_
  rintro e w3 ⟨rfl, hb3⟩
  replace kf := kf.below hb3 kf.lt
  replace hb0 := below_chain hb0 hb3
  clear hb3 cf
  have cf := kf.cell
  go_wp2_with fail
  refine (HD.out _).mono ?_
  rintro e w4 ⟨rfl, hb4⟩
  replace kf := kf.below hb4 kf.lt
  replace hb0 := below_chain hb0 hb4
  clear hb4 cf
  go_wp2_with fail
  have kr := Blk.new w4 22 (fillC n fun _ => 0)
  have hal := (Below.refl w4.heap.size w4).alloc (Nat.le_refl _) (.cells (fillC n fun _ => 0) 22)
  have hg0 : w.heap.size < w4.heap.size := kf.lt
  replace kf := kf.below hal kf.lt
  replace hb0 := below_chain hb0 hal
  clear hal mk
  generalize w4.alloc _ = w5 at kf kr hb0 ⊢
  generalize w4.heap.size = g0 at kr hg0 ⊢
  go_loopw [13, 41] (fun pv y wr => ∃ (i pw : Nat), i ≤ l.length ∧ y = .int .i64 (i : Int) ∧ pv = .int .u64 (pw : Int) ∧ Hid (pw = powI p x i) ∧ Blk wr w.heap.size 96 #[.int .u64 (p : Int)] ∧ Blk wr g0 22 (fillC n (accP p n l x i)) ∧ Below w.heap.size w wr) (fun _ y _ => l.length - (intOf y).toNat)
  case atStart => exact ⟨0, 1, Nat.zero_le _, rfl, rfl, rfl, kf, kr, hb0⟩
  case round =>
    clear kf kr hb0
    obtain ⟨i, pw, hi, rfl, rfl, HPW, kf, kr, hb0⟩ := hrel
    by_cases hlt' : i < l.length
    · have q1 : (0 : Int) ≤ (i : Int) := by omega
      have q2 : (i : Int) < (l.length : Int) := by omega
      obtain ⟨b, q, rfl, hbl, hc⟩ := lw_get (hrd.below hb0) hlt'
      obtain ⟨y, hy⟩ : ∃ y, y = l.getD i 0 := ⟨_, rfl⟩
      obtain ⟨t, ht⟩ : ∃ t, t = i % n := ⟨_, rfl⟩
      obtain ⟨v, hv⟩ : ∃ v, v = accP p n l x i t := ⟨_, rfl⟩
      obtain ⟨pr, hpr⟩ : ∃ pr, pr = y * pw % p := ⟨_, rfl⟩
      obtain ⟨z, hz⟩ : ∃ z, z = (v + pr) % p := ⟨_, rfl⟩
      obtain ⟨np, hnp⟩ : ∃ np, np = pw * x % p := ⟨_, rfl⟩
      have htn : t < n := by rw [ht]; exact Nat.mod_lt _ (by omega)
      have e1 : (i : Int) % (n : Int) = (t : Int) := by rw [ht]; rfl
      have e2 : (i : Int).tmod (n : Int) = (t : Int) := by rw [Int.tmod_eq_emod_of_nonneg (by omega)]; exact e1
      have e3 : IntKind.i64.wrap (t : Int) = (t : Int) := wr_i64 _ (by omega) (by omega)
      have e4 : (0 : Int) ≤ (t : Int) := by omega
      have e5 : (t : Int) < (n : Int) := by omega
      have HST := Lib.hid (show (fillC n (accP p n l x i)).setIfInBounds t (.int .u64 (z : Int)) = fillC n (accP p n l x (i + 1)) by rw [fill_set, hz, hpr, hv, hy, ht, HPW.out]; rfl)
      have HNP := Lib.hid (show np = powI p x (i + 1) by rw [hnp, HPW.out]; rfl)
      have HC1 := Lib.hid (fun w => by have := HM.out y pw w; rw [← hpr] at this; exact this)
      have HC2 := Lib.hid (fun w => by have := HA.out v pr w; rw [← hz] at this; exact this)
      have HC3 := Lib.hid (fun w => by have := HM.out pw x w; rw [← hnp] at this; exact this)
      have cr := kr.cell t
      rw [fill_get _ htn, ← hv] at cr
      rw [← hy] at hc
      have HVV := Lib.hid hv
      clear hy ht hv hpr hz hnp
      have cf := kf.cell
      have lf := kf.lt
      have lr := kr.lt
      go_upto_region 14 with fail
      refine wpGO_begin (Later) (later_moves) [17] [17] [0, 1, 2, 3, 4, 5, 6, 7, 8, 9, 10, 11, 12, 13, 14, 15, 16, 17] (by kernel_rfl) (by kernel_rfl) ?_
      refine wpGO_start (later_moves) ?_
      intro Wc hacc
      repeat (first | (refine wpGO_skip (later_moves) rfl rfl rfl rfl (fun _ _ _ h => h) ?_ ; simp only [Act.put, List.setIfInBounds_toArray, List.set_cons_zero, List.set_cons_succ]) | (refine wpGO_light (v := ?_) (later_moves) rfl rfl rfl rfl (fun _ _ _ h => h) ?_ ?_ ; rotate_left ; (· (intro w' hR ; (first | have hcells := later_cellsD ((later_moves).trans _ _ _ hacc hR) | skip) ; go_simp ; try with_reducible rfl)) ; simp only [Act.put, List.setIfInBounds_toArray, List.set_cons_zero, List.set_cons_succ]) | (refine wpGO_free (v := ?_) rfl rfl rfl rfl (fun _ _ _ h => h) ?_ ?_ ; rotate_left ; (· (intro w' ; go_simp ; try with_reducible rfl)) ; simp only [Act.put, List.setIfInBounds_toArray, List.set_cons_zero, List.set_cons_succ]))
      refine wpGO_call (later_moves) rfl rfl rfl rfl (fun _ _ _ h => h) (fun _ => by go_simp <;> rfl) (fun w' hR => HC1.out _) ?_
      simp only [Act.put, List.setIfInBounds_toArray, List.set_cons_zero, List.set_cons_succ]
      repeat (first | (refine wpGO_skip (later_moves) rfl rfl rfl rfl (fun _ _ _ h => h) ?_ ; simp only [Act.put, List.setIfInBounds_toArray, List.set_cons_zero, List.set_cons_succ]) | (refine wpGO_light (v := ?_) (later_moves) rfl rfl rfl rfl (fun _ _ _ h => h) ?_ ?_ ; rotate_left ; (· (intro w' hR ; (first | have hcells := later_cellsD ((later_moves).trans _ _ _ hacc hR) | skip) ; go_simp ; try with_reducible rfl)) ; simp only [Act.put, List.setIfInBounds_toArray, List.set_cons_zero, List.set_cons_succ]) | (refine wpGO_free (v := ?_) rfl rfl rfl rfl (fun _ _ _ h => h) ?_ ?_ ; rotate_left ; (· (intro w' ; go_simp ; try with_reducible rfl)) ; simp only [Act.put, List.setIfInBounds_toArray, List.set_cons_zero, List.set_cons_succ]))
      refine wpGO_call (later_moves) rfl rfl rfl rfl (fun _ _ _ h => h) (fun _ => by go_simp <;> rfl) (fun w' hR => HC2.out _) ?_
      simp only [Act.put, List.setIfInBounds_toArray, List.set_cons_zero, List.set_cons_succ]
      repeat (first | (refine wpGO_skip (later_moves) rfl rfl rfl rfl (fun _ _ _ h => h) ?_ ; simp only [Act.put, List.setIfInBounds_toArray, List.set_cons_zero, List.set_cons_succ]) | (refine wpGO_light (v := ?_) (later_moves) rfl rfl rfl rfl (fun _ _ _ h => h) ?_ ?_ ; rotate_left ; (· (intro w' hR ; (first | have hcells := later_cellsD ((later_moves).trans _ _ _ hacc hR) | skip) ; go_simp ; try with_reducible rfl)) ; simp only [Act.put, List.setIfInBounds_toArray, List.set_cons_zero, List.set_cons_succ]) | (refine wpGO_free (v := ?_) rfl rfl rfl rfl (fun _ _ _ h => h) ?_ ?_ ; rotate_left ; (· (intro w' ; go_simp ; try with_reducible rfl)) ; simp only [Act.put, List.setIfInBounds_toArray, List.set_cons_zero, List.set_cons_succ]))
      refine wpGO_heavy rfl rfl rfl rfl ?_
      intro wh hRh
      replace hacc := (later_moves).trans _ _ _ hacc hRh
      have hxd := below_chain (Below.refl wr.heap.size wr).drew hacc
      replace kf := kf.below hxd kf.lt
      replace kr := kr.below hxd kr.lt
      replace hb0 := below_chain hb0 hxd
      clear hxd hacc hRh cf lf lr cr hc
      have c2 := kr.cell t
      rw [fill_get _ htn, ← HVV.out] at c2
      have f2 := kr.frozen
      go_simp
      refine ⟨fun h => Bool.noConfusion h, ?_⟩
      have hg := set_only (w := wh) g0 t (.int .u64 (z : Int))
      replace kf := kf.grown hg (fun e => by have := Option.some.inj e; first | omega | (exact absurd this (by assumption)) | (exact absurd this.symm (by assumption)))
      replace hb0 := hb0.trans (below_of_only hg hb0.size (by omega))
      replace kr := kr.set_ t (.int .u64 (z : Int))
      rw [HST.out] at kr
      clear hg f2 c2
      generalize wh.setCell _ _ = we at kf kr hb0 ⊢
      refine wpGO_doneP rfl ?_
      have cf := kf.cell
      go_wp2_with fail
      refine (HC3.out _).mono ?_
      rintro e w9 ⟨rfl, hb9⟩
      replace kf := kf.below hb9 kf.lt
      replace kr := kr.below hb9 kr.lt
      replace hb0 := below_chain hb0 hb9
      clear hb9 cf
      go_wp2
      go_roundw
      case rel => exact ⟨i + 1, np, by omega, by go_num, rfl, HNP.out, kf, kr, hb0⟩
      case measure => simp [intOf]; omega
    · obtain rfl : i = l.length := by omega
      have cf := kf.cell
      go_wp2_with fail
      refine (HVA.out g0 _ kr).mono ?_
      rintro e w7 ⟨rfl, kr', hg7⟩
      replace hb0 := hb0.trans (below_of_only hg7 hb0.size (by omega))
      go_wp2
      go_ret2
      exact ⟨g0, rfl, by omega, kr', hb0⟩
end Go.Proofs.YtakjnmojigechaaGreat
