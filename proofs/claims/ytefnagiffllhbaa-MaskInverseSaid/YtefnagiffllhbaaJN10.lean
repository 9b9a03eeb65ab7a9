/-
  The program's permutation: Constant, Mix.
-/
import Derived.Test.YtefnagiffllhbaaJN9
import Derived.Laws.OwnMore
import Derived.Deep.AppendLies
import Derived.Test.YtefnagiffllhbaaJN4

/- TrD -/
namespace Go.Proofs.Ytefnagiffllhbaa
open Go.RowKit

/-- The coefficients times the powers of s, folded to n cells: after i of them. -/
def accP (p n : Nat) (l : List Nat) (s : Nat) : Nat → Nat → Nat
  | 0 => fun _ => 0
  | i + 1 => putF (accP p n l s i) (i % n) ((accP p n l s i (i % n) + l.getD i 0 * powI p s i % p) % p)
/-- Evaluate's values. -/
def evaP (p n j : Nat) (l : List Nat) (s : Nat) : Nat → Nat := fftP p j (accP p n l (s % p) l.length) (rootP p n)

set_option maxRecDepth 100000 in
set_option maxHeartbeats 2000000 in
theorem tEvaluate_any (p : Nat) (A : Option Addr) (m c n j s : Nat) (l : List Nat) (w : World) (hp : okP p = true) (hl : RWd w [.slice A m c] l) (hn : LenOk p n) (hj : n = 2 ^ j) (hs : s % p ≠ 0) (hm : m ≤ 8192) :
    Calls Try.prog 58 #[fv p, .slice A m c, .int .u64 (s : Int), .int .i64 (n : Int)] w fun e w' => ∃ g, e = .returned (.tuple #[.slice (some ⟨g, 0, none⟩) n n, .int .i64 0]) ∧ w.heap.size ≤ g ∧ Blk w' g 22 (fillC n (evaP p n j l s)) ∧ Below w.heap.size w w' := by
  have hn4 := hn.le
  have hn1 := hn.pos
  have hj12 : j ≤ 12 := by have := pow_le (j := j) (by omega); omega
  have HV := Lib.hid (fun w => fValid_any p w hp)
  have HR := Lib.hid (fun w => tRoot_any p n w hp hn)
  have HM := Lib.hid (fun a b w => fMul_any p a b w hp)
  have HA := Lib.hid (fun a b w => fAdd_any p a b w hp)
  have HD := Lib.hid (fun w => fReduce_any p s w hp)
  obtain ⟨r, hr⟩ : ∃ r, r = rootP p n := ⟨_, rfl⟩
  obtain ⟨x, hx⟩ : ∃ x, x = s % p := ⟨_, rfl⟩
  have HRES := Lib.hid (show evaP p n j l s = fftP p j (accP p n l x l.length) r by unfold evaP; rw [← hr, ← hx])
  rw [HRES.out]
  have HVA := Lib.hid (fun g w (k : Blk w g 22 (fillC n (accP p n l x l.length))) => by have := values_any p hp j hj12 (accP p n l x l.length) r g w (by rw [← hj]; exact k); rw [← hj] at this; exact this)
  rw [← hr] at HR
  rw [← hx] at HD hs
  obtain ⟨rfl, h1, h2, hlt, hrd⟩ := lw_at hl
  clear hr hx hj hn hl HRES
  generalize fftP p j (accP p n l x l.length) r = E at *
  unfold fv at *
  have kf := Blk.new w 88 #[.int .u64 (p : Int)]
  have hb0 : Below w.heap.size w (w.alloc (.cells #[.int .u64 (p : Int)] 88)) := (Below.refl _ _).alloc (Nat.le_refl _) _
  have gn : (n : Int) ≤ 4096 := by omega
  have gn1 : (1 : Int) ≤ (n : Int) := by omega
  have gn0 : (0 : Int) < (n : Int) := by omega
  have gn2 : ¬ ((n : Int) = 0) := by omega
  have gn3 : ¬ (n = 0) := by omega
  have gm : (l.length : Int) ≤ 8192 := by omega
  have d1 : ((x : Int) == 0) = false := by rw [beq_eq_false_iff_ne]; omega
  have d2 : decide ((8192 : Int) < (l.length : Int)) = false := decide_eq_false (by omega)
  have mk := mk_words n (by omega)
  clear hs
  go_enter Try.func58, Try.ntmps58
  go_wp2_with fail
  generalize w.alloc _ = w1 at kf hb0 ⊢
  refine (HV.out _).mono ?_
  rintro e w2 ⟨rfl, hb2⟩
  replace kf := kf.below hb2 kf.lt
  replace hb0 := below_chain hb0 hb2
  clear hb2
  have cf := kf.cell
  go_wp2_with fail
  refine (HR.out _).mono ?_
  rintro e w3 ⟨rfl, hb3⟩
  replace kf := kf.below hb3 kf.lt
  replace hb0 := below_chain hb0 hb3
  clear hb3 cf
  have cf := kf.cell
  go_wp2_with fail
  refine (HD.out _).mono ?_
  rintro e w4 ⟨rfl, hb4⟩
  replace kf := kf.below hb4 kf.lt
  replace hb0 := below_chain hb0 hb4
  clear hb4 cf
  go_wp2_with fail
  have kr := Blk.new w4 22 (fillC n fun _ => 0)
  have hal := (Below.refl w4.heap.size w4).alloc (Nat.le_refl _) (.cells (fillC n fun _ => 0) 22)
  have hg0 : w.heap.size < w4.heap.size := kf.lt
  replace kf := kf.below hal kf.lt
  replace hb0 := below_chain hb0 hal
  clear hal mk
  generalize w4.alloc _ = w5 at kf kr hb0 ⊢
  generalize w4.heap.size = g0 at kr hg0 ⊢
  go_loopw [13, 41] (fun pv y wr => ∃ (i pw : Nat), i ≤ l.length ∧ y = .int .i64 (i : Int) ∧ pv = .int .u64 (pw : Int) ∧ Hid (pw = powI p x i) ∧ Blk wr w.heap.size 88 #[.int .u64 (p : Int)] ∧ Blk wr g0 22 (fillC n (accP p n l x i)) ∧ Below w.heap.size w wr) (fun _ y _ => l.length - (intOf y).toNat)
  case atStart => exact ⟨0, 1, Nat.zero_le _, rfl, rfl, rfl, kf, kr, hb0⟩
  case round =>
    clear kf kr hb0
    obtain ⟨i, pw, hi, rfl, rfl, HPW, kf, kr, hb0⟩ := hrel
    by_cases hlt' : i < l.length
    · have q1 : (0 : Int) ≤ (i : Int) := by omega
      have q2 : (i : Int) < (l.length : Int) := by omega
      obtain ⟨b, q, rfl, hbl, hc⟩ := lw_get (hrd.below hb0) hlt'
      obtain ⟨y, hy⟩ : ∃ y, y = l.getD i 0 := ⟨_, rfl⟩
      obtain ⟨t, ht⟩ : ∃ t, t = i % n := ⟨_, rfl⟩
      obtain ⟨v, hv⟩ : ∃ v, v = accP p n l x i t := ⟨_, rfl⟩
      obtain ⟨pr, hpr⟩ : ∃ pr, pr = y * pw % p := ⟨_, rfl⟩
      obtain ⟨z, hz⟩ : ∃ z, z = (v + pr) % p := ⟨_, rfl⟩
      obtain ⟨np, hnp⟩ : ∃ np, np = pw * x % p := ⟨_, rfl⟩
      have htn : t < n := by rw [ht]; exact Nat.mod_lt _ (by omega)
      have e1 : (i : Int) % (n : Int) = (t : Int) := by rw [ht]; rfl
      have e2 : (i : Int).tmod (n : Int) = (t : Int) := by rw [Int.tmod_eq_emod_of_nonneg (by omega)]; exact e1
      have e3 : IntKind.i64.wrap (t : Int) = (t : Int) := wr_i64 _ (by omega) (by omega)
      have e4 : (0 : Int) ≤ (t : Int) := by omega
      have e5 : (t : Int) < (n : Int) := by omega
      have HST := Lib.hid (show (fillC n (accP p n l x i)).setIfInBounds t (.int .u64 (z : Int)) = fillC n (accP p n l x (i + 1)) by rw [fill_set, hz, hpr, hv, hy, ht, HPW.out]; rfl)
      have HNP := Lib.hid (show np = powI p x (i + 1) by rw [hnp, HPW.out]; rfl)
      have HC1 := Lib.hid (fun w => by have := HM.out y pw w; rw [← hpr] at this; exact this)
      have HC2 := Lib.hid (fun w => by have := HA.out v pr w; rw [← hz] at this; exact this)
      have HC3 := Lib.hid (fun w => by have := HM.out pw x w; rw [← hnp] at this; exact this)
      have cr := kr.cell t
      rw [fill_get _ htn, ← hv] at cr
      rw [← hy] at hc
      have HVV := Lib.hid hv
      clear hy ht hv hpr hz hnp
      have cf := kf.cell
      have lf := kf.lt
      have lr := kr.lt
      go_upto_region 14 with fail
      refine wpGO_begin (Later) (later_moves) [17] [17] [0, 1, 2, 3, 4, 5, 6, 7, 8, 9, 10, 11, 12, 13, 14, 15, 16, 17] (by kernel_rfl) (by kernel_rfl) ?_
      refine wpGO_start (later_moves) ?_
      intro Wc hacc
      repeat (first | (refine wpGO_skip (later_moves) rfl rfl rfl rfl (fun _ _ _ h => h) ?_ ; simp only [Act.put, List.setIfInBounds_toArray, List.set_cons_zero, List.set_cons_succ]) | (refine wpGO_light (v := ?_) (later_moves) rfl rfl rfl rfl (fun _ _ _ h => h) ?_ ?_ ; rotate_left ; (· (intro w' hR ; (first | have hcells := later_cellsD ((later_moves).trans _ _ _ hacc hR) | skip) ; go_simp ; try with_reducible rfl)) ; simp only [Act.put, List.setIfInBounds_toArray, List.set_cons_zero, List.set_cons_succ]) | (refine wpGO_free (v := ?_) rfl rfl rfl rfl (fun _ _ _ h => h) ?_ ?_ ; rotate_left ; (· (intro w' ; go_simp ; try with_reducible rfl)) ; simp only [Act.put, List.setIfInBounds_toArray, List.set_cons_zero, List.set_cons_succ]))
      refine wpGO_call (later_moves) rfl rfl rfl rfl (fun _ _ _ h => h) (fun _ => by go_simp <;> rfl) (fun w' hR => HC1.out _) ?_
      simp only [Act.put, List.setIfInBounds_toArray, List.set_cons_zero, List.set_cons_succ]
      repeat (first | (refine wpGO_skip (later_moves) rfl rfl rfl rfl (fun _ _ _ h => h) ?_ ; simp only [Act.put, List.setIfInBounds_toArray, List.set_cons_zero, List.set_cons_succ]) | (refine wpGO_light (v := ?_) (later_moves) rfl rfl rfl rfl (fun _ _ _ h => h) ?_ ?_ ; rotate_left ; (· (intro w' hR ; (first | have hcells := later_cellsD ((later_moves).trans _ _ _ hacc hR) | skip) ; go_simp ; try with_reducible rfl)) ; simp only [Act.put, List.setIfInBounds_toArray, List.set_cons_zero, List.set_cons_succ]) | (refine wpGO_free (v := ?_) rfl rfl rfl rfl (fun _ _ _ h => h) ?_ ?_ ; rotate_left ; (· (intro w' ; go_simp ; try with_reducible rfl)) ; simp only [Act.put, List.setIfInBounds_toArray, List.set_cons_zero, List.set_cons_succ]))
      refine wpGO_call (later_moves) rfl rfl rfl rfl (fun _ _ _ h => h) (fun _ => by go_simp <;> rfl) (fun w' hR => HC2.out _) ?_
      simp only [Act.put, List.setIfInBounds_toArray, List.set_cons_zero, List.set_cons_succ]
      repeat (first | (refine wpGO_skip (later_moves) rfl rfl rfl rfl (fun _ _ _ h => h) ?_ ; simp only [Act.put, List.setIfInBounds_toArray, List.set_cons_zero, List.set_cons_succ]) | (refine wpGO_light (v := ?_) (later_moves) rfl rfl rfl rfl (fun _ _ _ h => h) ?_ ?_ ; rotate_left ; (· (intro w' hR ; (first | have hcells := later_cellsD ((later_moves).trans _ _ _ hacc hR) | skip) ; go_simp ; try with_reducible rfl)) ; simp only [Act.put, List.setIfInBounds_toArray, List.set_cons_zero, List.set_cons_succ]) | (refine wpGO_free (v := ?_) rfl rfl rfl rfl (fun _ _ _ h => h) ?_ ?_ ; rotate_left ; (· (intro w' ; go_simp ; try with_reducible rfl)) ; simp only [Act.put, List.setIfInBounds_toArray, List.set_cons_zero, List.set_cons_succ]))
      refine wpGO_heavy rfl rfl rfl rfl ?_
      intro wh hRh
      replace hacc := (later_moves).trans _ _ _ hacc hRh
      have hxd := below_chain (Below.refl wr.heap.size wr).drew hacc
      replace kf := kf.below hxd kf.lt
      replace kr := kr.below hxd kr.lt
      replace hb0 := below_chain hb0 hxd
      clear hxd hacc hRh cf lf lr cr hc
      have c2 := kr.cell t
      rw [fill_get _ htn, ← HVV.out] at c2
      have f2 := kr.frozen
      go_simp
      refine ⟨fun h => Bool.noConfusion h, ?_⟩
      have hg := set_only (w := wh) g0 t (.int .u64 (z : Int))
      replace kf := kf.grown hg (fun e => by have := Option.some.inj e; first | omega | (exact absurd this (by assumption)) | (exact absurd this.symm (by assumption)))
      replace hb0 := hb0.trans (below_of_only hg hb0.size (by omega))
      replace kr := kr.set_ t (.int .u64 (z : Int))
      rw [HST.out] at kr
      clear hg f2 c2
      generalize wh.setCell _ _ = we at kf kr hb0 ⊢
      refine wpGO_doneP rfl ?_
      have cf := kf.cell
      go_wp2_with fail
      refine (HC3.out _).mono ?_
      rintro e w9 ⟨rfl, hb9⟩
      replace kf := kf.below hb9 kf.lt
      replace kr := kr.below hb9 kr.lt
      replace hb0 := below_chain hb0 hb9
      clear hb9 cf
      go_wp2
      go_roundw
      case rel => exact ⟨i + 1, np, by omega, by go_num, rfl, HNP.out, kf, kr, hb0⟩
      case measure => simp [intOf]; omega
    · obtain rfl : i = l.length := by omega
      have cf := kf.cell
      go_wp2_with fail
      refine (HVA.out g0 _ kr).mono ?_
      rintro e w7 ⟨rfl, kr', hg7⟩
      replace hb0 := hb0.trans (below_of_only hg7 hb0.size (by omega))
      go_wp2
      go_ret2
      exact ⟨g0, rfl, by omega, kr', hb0⟩
end Go.Proofs.Ytefnagiffllhbaa

/- MkC -/
namespace Go.Proofs.Ytefnagiffllhbaa
open Go.RowKit

/-- X^b - 1 times a, as the loop makes it: after i elements. -/
def vanP (p b : Nat) (l : List Nat) : Nat → Nat → Nat
  | 0 => fun _ => 0
  | i + 1 =>
    let v := putF (vanP p b l i) i ((vanP p b l i i + negP p (l.getD i 0)) % p)
    putF v (b + i) ((v (b + i) + l.getD i 0) % p)
theorem layLen {L : LayR} (h : LayOk L) : LenOk L.p L.block ∧ ∃ j, L.block = 2 ^ j := by
  obtain ⟨j, hj⟩ := pow_of_and ⟨L.block, by have := h.b2; omega⟩ (by show 1 ≤ L.block; have := h.b1; omega) h.bj
  simp only at hj
  exact ⟨⟨by have := h.b1; omega, by have := h.b2; omega, ⟨_, hj⟩, h.bd⟩, _, hj⟩

set_option maxRecDepth 100000 in
set_option maxHeartbeats 2000000 in
theorem vanishing_any (L : LayR) (A : Option Addr) (m c : Nat) (l : List Nat) (w : World) (hL : LayOk L) (hl : RWd w [.slice A m c] l) (hm : m ≤ 65536) :
    Calls Try.prog 36 #[.agg (layCs L), .slice A m c] w fun e w' => ∃ g, e = .returned (.slice (some ⟨g, 0, none⟩) (L.block + m) (L.block + m)) ∧ w.heap.size ≤ g ∧ Blk w' g 22 (fillC (L.block + m) (vanP L.p L.block l m)) ∧ Below w.heap.size w w' := by
  have hp := hL.p
  have h1 := hL.b1
  have h2 := hL.b2
  have HA := Lib.hid (fun a b w => fAdd_any L.p a b w hp)
  have HS := Lib.hid (fun a b w => fSub_any L.p a b w hp)
  obtain ⟨rfl, -, -, -, hrd⟩ := lw_at hl
  obtain ⟨n, hn⟩ : ∃ n, n = L.block + l.length := ⟨_, rfl⟩
  rw [← hn]
  have en : (L.block : Int) + (l.length : Int) = (n : Int) := by omega
  have en2 : IntKind.i64.wrap (n : Int) = (n : Int) := wr_i64 _ (by omega) (by omega)
  have mk := mk_words n (by omega)
  have gb0 : (0 : Int) ≤ (L.block : Int) := by omega
  have gb : (L.block : Int) ≤ 256 := by omega
  have gl : (l.length : Int) ≤ 65536 := by omega
  have HNN := Lib.hid hn
  clear hL hl hp h1 hn
  unfold layCs fv at *
  obtain ⟨kl, kf, hb0, -⟩ := boxes2 w 41 88 #[.int .u64 (L.p : Int), .int .i64 (L.block : Int), .int .i64 (L.queries : Int), .int .i64 (L.k : Int), .int .i64 (L.n : Int), .int .i64 (L.secret : Int), .int .i64 (L.rows : Int), .int .i64 (L.a : Int), .int .i64 (L.b : Int), .int .i64 (L.b : Int), .int .i64 (L.b : Int)] #[.int .u64 (L.p : Int)]
  have hmax : max (0 : Int) (L.block : Int) = (L.block : Int) := Int.max_eq_right gb0
  go_enter Try.func36, Try.ntmps36
  go_upto_region 2 with fail
  generalize (w.alloc _).alloc _ = w0 at kl kf hb0 ⊢
  have cl := kl.cell
  go_wp2_with fail
  have kr := Blk.new w0 22 (fillC n fun _ => 0)
  have hal := (Below.refl w0.heap.size w0).alloc (Nat.le_refl _) (.cells (fillC n fun _ => 0) 22)
  have hg0 : w.heap.size + 1 < w0.heap.size := kf.lt
  replace kl := kl.below hal kl.lt
  replace kf := kf.below hal kf.lt
  replace hb0 := below_chain hb0 hal
  clear hal mk cl
  generalize w0.alloc _ = w5 at kl kf kr hb0 ⊢
  generalize w0.heap.size = g0 at kr hg0 ⊢
  go_loopw [21] (fun y wr => ∃ i : Nat, i ≤ l.length ∧ y = .int .i64 (i : Int) ∧ Blk wr w.heap.size 41 #[.int .u64 (L.p : Int), .int .i64 (L.block : Int), .int .i64 (L.queries : Int), .int .i64 (L.k : Int), .int .i64 (L.n : Int), .int .i64 (L.secret : Int), .int .i64 (L.rows : Int), .int .i64 (L.a : Int), .int .i64 (L.b : Int), .int .i64 (L.b : Int), .int .i64 (L.b : Int)] ∧ Blk wr (w.heap.size + 1) 88 #[.int .u64 (L.p : Int)] ∧ Blk wr g0 22 (fillC n (vanP L.p L.block l i)) ∧ Below w.heap.size w wr) (fun y _ => l.length - (intOf y).toNat)
  case atStart => exact ⟨0, Nat.zero_le _, rfl, kl, kf, kr, hb0⟩
  case round =>
    clear kl kf kr hb0
    obtain ⟨i, hi, rfl, kl, kf, kr, hb0⟩ := hrel
    by_cases hlt' : i < l.length
    · have q1 : (0 : Int) ≤ (i : Int) := by omega
      have q2 : (i : Int) < (l.length : Int) := by omega
      obtain ⟨b, q, rfl, hbl, hc⟩ := lw_get (hrd.below hb0) hlt'
      obtain ⟨y, hy⟩ : ∃ y, y = l.getD i 0 := ⟨_, rfl⟩
      obtain ⟨t, ht⟩ : ∃ t, t = L.block + i := ⟨_, rfl⟩
      obtain ⟨V, hV⟩ : ∃ V, V = vanP L.p L.block l i := ⟨_, rfl⟩
      obtain ⟨u, hu⟩ : ∃ u, u = V i := ⟨_, rfl⟩
      obtain ⟨z1, hz1⟩ : ∃ z1, z1 = (u + negP L.p y) % L.p := ⟨_, rfl⟩
      obtain ⟨V2, hV2⟩ : ∃ V2, V2 = putF V i z1 := ⟨_, rfl⟩
      obtain ⟨u2, hu2⟩ : ∃ u2, u2 = V2 t := ⟨_, rfl⟩
      obtain ⟨z2, hz2⟩ : ∃ z2, z2 = (u2 + y) % L.p := ⟨_, rfl⟩
      have hin : i < n := by have := HNN.out; omega
      have htn : t < n := by have := HNN.out; omega
      have e1 : (L.block : Int) + (i : Int) = (t : Int) := by omega
      have e2 : IntKind.i64.wrap (t : Int) = (t : Int) := wr_i64 _ (by omega) (by omega)
      have e3 : (t : Int) < (n : Int) := by omega
      have e4 : (i : Int) < (n : Int) := by omega
      have e5 : (0 : Int) ≤ (t : Int) := by omega
      have HST1 := Lib.hid (show (fillC n V).setIfInBounds i (.int .u64 (z1 : Int)) = fillC n V2 by rw [fill_set, hV2])
      have HST2 := Lib.hid (show (fillC n V2).setIfInBounds t (.int .u64 (z2 : Int)) = fillC n (vanP L.p L.block l (i + 1)) by rw [fill_set, hz2, hu2, hV2, hz1, hu, hV, hy, ht]; rfl)
      have HC1 := Lib.hid (fun w => by have := HS.out u y w; rw [← hz1] at this; exact this)
      have HC2 := Lib.hid (fun w => by have := HA.out u2 y w; rw [← hz2] at this; exact this)
      rw [← hV] at kr
      have cr := kr.cell i
      rw [fill_get _ hin, ← hu] at cr
      rw [← hy] at hc
      have HU := Lib.hid hu
      have HU2 := Lib.hid hu2
      clear hy ht hV hu hz1 hV2 hu2 hz2
      have cf := kf.cell
      have lf := kf.lt
      have lr := kr.lt
      go_upto_region 6 with fail
      refine wpGO_begin (Later) (later_moves) [10] [10] [0, 1, 2, 3, 4, 5, 6, 7, 8, 9, 10] (by kernel_rfl) (by kernel_rfl) ?_
      refine wpGO_start (later_moves) ?_
      intro Wc hacc
      repeat (first | (refine wpGO_skip (later_moves) rfl rfl rfl rfl (fun _ _ _ h => h) ?_ ; simp only [Act.put, List.setIfInBounds_toArray, List.set_cons_zero, List.set_cons_succ]) | (refine wpGO_light (v := ?_) (later_moves) rfl rfl rfl rfl (fun _ _ _ h => h) ?_ ?_ ; rotate_left ; (· (intro w' hR ; (first | have hcells := later_cellsD ((later_moves).trans _ _ _ hacc hR) | skip) ; go_simp ; try with_reducible rfl)) ; simp only [Act.put, List.setIfInBounds_toArray, List.set_cons_zero, List.set_cons_succ]) | (refine wpGO_free (v := ?_) rfl rfl rfl rfl (fun _ _ _ h => h) ?_ ?_ ; rotate_left ; (· (intro w' ; go_simp ; try with_reducible rfl)) ; simp only [Act.put, List.setIfInBounds_toArray, List.set_cons_zero, List.set_cons_succ]))
      refine wpGO_call (later_moves) rfl rfl rfl rfl (fun _ _ _ h => h) (fun _ => by go_simp <;> rfl) (fun w' hR => HC1.out _) ?_
      simp only [Act.put, List.setIfInBounds_toArray, List.set_cons_zero, List.set_cons_succ]
      repeat (first | (refine wpGO_skip (later_moves) rfl rfl rfl rfl (fun _ _ _ h => h) ?_ ; simp only [Act.put, List.setIfInBounds_toArray, List.set_cons_zero, List.set_cons_succ]) | (refine wpGO_light (v := ?_) (later_moves) rfl rfl rfl rfl (fun _ _ _ h => h) ?_ ?_ ; rotate_left ; (· (intro w' hR ; (first | have hcells := later_cellsD ((later_moves).trans _ _ _ hacc hR) | skip) ; go_simp ; try with_reducible rfl)) ; simp only [Act.put, List.setIfInBounds_toArray, List.set_cons_zero, List.set_cons_succ]) | (refine wpGO_free (v := ?_) rfl rfl rfl rfl (fun _ _ _ h => h) ?_ ?_ ; rotate_left ; (· (intro w' ; go_simp ; try with_reducible rfl)) ; simp only [Act.put, List.setIfInBounds_toArray, List.set_cons_zero, List.set_cons_succ]))
      refine wpGO_heavy rfl rfl rfl rfl ?_
      intro wh hRh
      replace hacc := (later_moves).trans _ _ _ hacc hRh
      have hxd := below_chain (Below.refl wr.heap.size wr).drew hacc
      replace kl := kl.below hxd kl.lt
      replace kf := kf.below hxd kf.lt
      replace kr := kr.below hxd kr.lt
      replace hb0 := below_chain hb0 hxd
      clear hxd hacc hRh cf lf lr cr hc
      have c2 := kr.cell i
      rw [fill_get _ hin, ← HU.out] at c2
      have f2 := kr.frozen
      go_simp
      refine ⟨fun h => Bool.noConfusion h, ?_⟩
      have hg := set_only (w := wh) g0 i (.int .u64 (z1 : Int))
      replace kl := kl.grown hg (fun e => by have := Option.some.inj e; first | omega | (exact absurd this (by assumption)) | (exact absurd this.symm (by assumption)))
      replace kf := kf.grown hg (fun e => by have := Option.some.inj e; first | omega | (exact absurd this (by assumption)) | (exact absurd this.symm (by assumption)))
      replace hb0 := hb0.trans (below_of_only hg hb0.size (by omega))
      replace kr := kr.set_ i (.int .u64 (z1 : Int))
      rw [HST1.out] at kr
      clear hg f2 c2
      generalize wh.setCell _ _ = we at kl kf kr hb0 ⊢
      refine wpGO_doneP rfl ?_
      have cr := kr.cell t
      rw [fill_get _ htn, ← HU2.out] at cr
      have cl := kl.cell
      have ll := kl.lt
      have cf := kf.cell
      have lf := kf.lt
      have lr := kr.lt
      go_upto_region 7 with fail
      refine wpGO_begin (Later) (later_moves) [16] [16] [0, 1, 2, 3, 4, 5, 6, 7, 8, 9, 10, 11, 12, 13, 14, 15, 16] (by kernel_rfl) (by kernel_rfl) ?_
      refine wpGO_start (later_moves) ?_
      intro Wc hacc
      repeat (first | (refine wpGO_skip (later_moves) rfl rfl rfl rfl (fun _ _ _ h => h) ?_ ; simp only [Act.put, List.setIfInBounds_toArray, List.set_cons_zero, List.set_cons_succ]) | (refine wpGO_light (v := ?_) (later_moves) rfl rfl rfl rfl (fun _ _ _ h => h) ?_ ?_ ; rotate_left ; (· (intro w' hR ; (first | have hcells := later_cellsD ((later_moves).trans _ _ _ hacc hR) | skip) ; go_simp ; try with_reducible rfl)) ; simp only [Act.put, List.setIfInBounds_toArray, List.set_cons_zero, List.set_cons_succ]) | (refine wpGO_free (v := ?_) rfl rfl rfl rfl (fun _ _ _ h => h) ?_ ?_ ; rotate_left ; (· (intro w' ; go_simp ; try with_reducible rfl)) ; simp only [Act.put, List.setIfInBounds_toArray, List.set_cons_zero, List.set_cons_succ]))
      refine wpGO_call (later_moves) rfl rfl rfl rfl (fun _ _ _ h => h) (fun _ => by go_simp <;> rfl) (fun w' hR => HC2.out _) ?_
      simp only [Act.put, List.setIfInBounds_toArray, List.set_cons_zero, List.set_cons_succ]
      repeat (first | (refine wpGO_skip (later_moves) rfl rfl rfl rfl (fun _ _ _ h => h) ?_ ; simp only [Act.put, List.setIfInBounds_toArray, List.set_cons_zero, List.set_cons_succ]) | (refine wpGO_light (v := ?_) (later_moves) rfl rfl rfl rfl (fun _ _ _ h => h) ?_ ?_ ; rotate_left ; (· (intro w' hR ; (first | have hcells := later_cellsD ((later_moves).trans _ _ _ hacc hR) | skip) ; go_simp ; try with_reducible rfl)) ; simp only [Act.put, List.setIfInBounds_toArray, List.set_cons_zero, List.set_cons_succ]) | (refine wpGO_free (v := ?_) rfl rfl rfl rfl (fun _ _ _ h => h) ?_ ?_ ; rotate_left ; (· (intro w' ; go_simp ; try with_reducible rfl)) ; simp only [Act.put, List.setIfInBounds_toArray, List.set_cons_zero, List.set_cons_succ]))
      refine wpGO_heavy rfl rfl rfl rfl ?_
      intro wh hRh
      replace hacc := (later_moves).trans _ _ _ hacc hRh
      have hxd := below_chain (Below.refl we.heap.size we).drew hacc
      replace kl := kl.below hxd kl.lt
      replace kf := kf.below hxd kf.lt
      replace kr := kr.below hxd kr.lt
      replace hb0 := below_chain hb0 hxd
      clear hxd hacc hRh cf lf lr cr cl ll
      have c2 := kr.cell t
      rw [fill_get _ htn, ← HU2.out] at c2
      have f2 := kr.frozen
      go_simp
      refine ⟨fun h => Bool.noConfusion h, ?_⟩
      have hg := set_only (w := wh) g0 t (.int .u64 (z2 : Int))
      replace kl := kl.grown hg (fun e => by have := Option.some.inj e; first | omega | (exact absurd this (by assumption)) | (exact absurd this.symm (by assumption)))
      replace kf := kf.grown hg (fun e => by have := Option.some.inj e; first | omega | (exact absurd this (by assumption)) | (exact absurd this.symm (by assumption)))
      replace hb0 := hb0.trans (below_of_only hg hb0.size (by omega))
      replace kr := kr.set_ t (.int .u64 (z2 : Int))
      rw [HST2.out] at kr
      clear hg f2 c2
      generalize wh.setCell _ _ = wi at kl kf kr hb0 ⊢
      refine wpGO_doneP rfl ?_
      go_wp2
      go_roundw
      case rel => exact ⟨i + 1, by omega, by go_num, kl, kf, kr, hb0⟩
      case measure => simp [intOf]; omega
    · obtain rfl : l.length = i := by omega
      go_wp2
      go_ret
      exact ⟨g0, rfl, by omega, kr, hb0⟩

/-- The sum of the first nb cells. -/
def plusP (p nb : Nat) (A B : Nat → Nat) : Nat → Nat := fun k => if k < nb then (A k + B k) % p else A k
set_option maxRecDepth 100000 in
set_option maxHeartbeats 2000000 in
theorem madd_any (L : LayR) (g gb m nb : Nat) (a b : Nat → Nat) (w : World) (hL : LayOk L) (ka : Blk w g 22 (fillC m a)) (kb : Blk w gb 22 (fillC nb b)) (hg : g ≠ gb) (hm : m ≤ 65536) (hnb : nb ≤ m) :
    Calls Try.prog 37 #[.agg (layCs L), .slice (some ⟨g, 0, none⟩) m m, .slice (some ⟨gb, 0, none⟩) nb nb] w fun e w' => e = .returned (.slice (some ⟨g, 0, none⟩) m m) ∧ Blk w' g 22 (fillC m (plusP L.p nb a b)) ∧ w.grownBy w' (some g) := by
  have hp := hL.p
  have HA := Lib.hid (fun a b w => fAdd_any L.p a b w hp)
  have hmin : min (m : Int) (nb : Int) = (nb : Int) := Int.min_eq_right (by omega)
  have gl : (m : Int) ≤ 65536 := by omega
  have gl2 : (nb : Int) ≤ 65536 := by omega
  have lg := ka.lt
  have lgb := kb.lt
  clear hL hp
  unfold layCs fv at *
  obtain ⟨kl, kf, hb0, -⟩ := boxes2 w 41 88 #[.int .u64 (L.p : Int), .int .i64 (L.block : Int), .int .i64 (L.queries : Int), .int .i64 (L.k : Int), .int .i64 (L.n : Int), .int .i64 (L.secret : Int), .int .i64 (L.rows : Int), .int .i64 (L.a : Int), .int .i64 (L.b : Int), .int .i64 (L.b : Int), .int .i64 (L.b : Int)] #[.int .u64 (L.p : Int)]
  have g1 : w.heap.size + 1 ≠ g := by omega
  replace ka := ka.below hb0 ka.lt
  replace kb := kb.below hb0 kb.lt
  have hgr := grown_below (grown_refl' w (some g)) hb0 (Nat.le_refl _)
  clear hb0 kl
  go_enter Try.func37, Try.ntmps37
  go_upto_region 2 with fail
  generalize (w.alloc _).alloc _ = w0 at kf ka kb hgr ⊢
  rw [show fillC m a = fillC m (fun k => if k < 0 then (a k + b k) % L.p else a k) from fill_same fun i _ => by rw [if_neg (by omega)]] at ka
  go_wp2_with fail
  go_loopw [17] (fun y wr => ∃ i : Nat, i ≤ nb ∧ y = .int .i64 (i : Int) ∧ Blk wr (w.heap.size + 1) 88 #[.int .u64 (L.p : Int)] ∧ Blk wr g 22 (fillC m (fun k => if k < i then (a k + b k) % L.p else a k)) ∧ Blk wr gb 22 (fillC nb b) ∧ w.grownBy wr (some g)) (fun y _ => nb - (intOf y).toNat)
  case atStart => exact ⟨0, Nat.zero_le _, rfl, kf, ka, kb, hgr⟩
  case round =>
    clear kf ka kb hgr
    obtain ⟨i, hi, rfl, kf, ka, kb, hgr⟩ := hrel
    by_cases hlt' : i < nb
    · have q1 : (0 : Int) ≤ (i : Int) := by omega
      have q2 : (i : Int) < (nb : Int) := by omega
      have q3 : (i : Int) < (m : Int) := by omega
      have him : i < m := by omega
      obtain ⟨x, hx⟩ : ∃ x, x = a i := ⟨_, rfl⟩
      obtain ⟨y, hy⟩ : ∃ y, y = b i := ⟨_, rfl⟩
      obtain ⟨z, hz⟩ : ∃ z, z = (x + y) % L.p := ⟨_, rfl⟩
      have HST := Lib.hid (show (fillC m (fun k => if k < i then (a k + b k) % L.p else a k)).setIfInBounds i (.int .u64 (z : Int)) = fillC m (fun k => if k < i + 1 then (a k + b k) % L.p else a k) from upTo_set (F := fun k => (a k + b k) % L.p) (G := a) (by rw [hz, hx, hy]))
      have HC := Lib.hid (fun w => by have := HA.out x y w; rw [← hz] at this; exact this)
      have HX := Lib.hid (show (fillC m (fun k => if k < i then (a k + b k) % L.p else a k))[i]? = some (.int .u64 (x : Int)) by rw [fill_get _ him, hx]; simp)
      have ca := ka.cell i
      rw [HX.out] at ca
      have cb := kb.cell i
      rw [fill_get _ hlt', ← hy] at cb
      clear hx hy hz
      have cf := kf.cell
      have lf := kf.lt
      have la := ka.lt
      have lb := kb.lt
      go_upto_region 5 with fail
      refine wpGO_begin (Later) (later_moves) [13] [13] [0, 1, 2, 3, 4, 5, 6, 7, 8, 9, 10, 11, 12, 13] (by kernel_rfl) (by kernel_rfl) ?_
      refine wpGO_start (later_moves) ?_
      intro Wc hacc
      repeat (first | (refine wpGO_skip (later_moves) rfl rfl rfl rfl (fun _ _ _ h => h) ?_ ; simp only [Act.put, List.setIfInBounds_toArray, List.set_cons_zero, List.set_cons_succ]) | (refine wpGO_light (v := ?_) (later_moves) rfl rfl rfl rfl (fun _ _ _ h => h) ?_ ?_ ; rotate_left ; (· (intro w' hR ; (first | have hcells := later_cellsD ((later_moves).trans _ _ _ hacc hR) | skip) ; go_simp ; try with_reducible rfl)) ; simp only [Act.put, List.setIfInBounds_toArray, List.set_cons_zero, List.set_cons_succ]) | (refine wpGO_free (v := ?_) rfl rfl rfl rfl (fun _ _ _ h => h) ?_ ?_ ; rotate_left ; (· (intro w' ; go_simp ; try with_reducible rfl)) ; simp only [Act.put, List.setIfInBounds_toArray, List.set_cons_zero, List.set_cons_succ]))
      refine wpGO_call (later_moves) rfl rfl rfl rfl (fun _ _ _ h => h) (fun _ => by go_simp <;> rfl) (fun w' hR => HC.out _) ?_
      simp only [Act.put, List.setIfInBounds_toArray, List.set_cons_zero, List.set_cons_succ]
      repeat (first | (refine wpGO_skip (later_moves) rfl rfl rfl rfl (fun _ _ _ h => h) ?_ ; simp only [Act.put, List.setIfInBounds_toArray, List.set_cons_zero, List.set_cons_succ]) | (refine wpGO_light (v := ?_) (later_moves) rfl rfl rfl rfl (fun _ _ _ h => h) ?_ ?_ ; rotate_left ; (· (intro w' hR ; (first | have hcells := later_cellsD ((later_moves).trans _ _ _ hacc hR) | skip) ; go_simp ; try with_reducible rfl)) ; simp only [Act.put, List.setIfInBounds_toArray, List.set_cons_zero, List.set_cons_succ]) | (refine wpGO_free (v := ?_) rfl rfl rfl rfl (fun _ _ _ h => h) ?_ ?_ ; rotate_left ; (· (intro w' ; go_simp ; try with_reducible rfl)) ; simp only [Act.put, List.setIfInBounds_toArray, List.set_cons_zero, List.set_cons_succ]))
      refine wpGO_heavy rfl rfl rfl rfl ?_
      intro wh hRh
      replace hacc := (later_moves).trans _ _ _ hacc hRh
      have hxd := below_chain (Below.refl wr.heap.size wr).drew hacc
      have hgr2 := grown_below hgr hxd hgr.size
      replace kf := kf.below hxd kf.lt
      replace ka := ka.below hxd ka.lt
      replace kb := kb.below hxd kb.lt
      clear hxd hacc hRh cf lf la lb ca cb hgr
      have c2 := ka.cell i
      rw [HX.out] at c2
      have f2 := ka.frozen
      go_simp
      refine ⟨fun h => Bool.noConfusion h, ?_⟩
      have hg3 := set_only (w := wh) g i (.int .u64 (z : Int))
      replace kf := kf.grown hg3 (fun e => by have := Option.some.inj e; first | omega | (exact absurd this (by assumption)) | (exact absurd this.symm (by assumption)))
      replace kb := kb.grown hg3 (fun e => by have := Option.some.inj e; first | omega | (exact absurd this (by assumption)) | (exact absurd this.symm (by assumption)))
      replace ka := ka.set_ i (.int .u64 (z : Int))
      rw [HST.out] at ka
      have hgr := grown_step hgr2 hg3 (fun _ e => .inl e)
      clear hg3 f2 c2 hgr2
      generalize wh.setCell _ _ = we at kf ka kb hgr ⊢
      refine wpGO_doneP rfl ?_
      go_wp2
      go_roundw
      case rel => exact ⟨i + 1, by omega, by go_num, kf, ka, kb, hgr⟩
      case measure => simp [intOf]; omega
    · obtain rfl : nb = i := by omega
      go_wp2
      go_ret
      exact ⟨rfl, ka, hgr⟩
end Go.Proofs.Ytefnagiffllhbaa

/- MkD -/
namespace Go.Proofs.Ytefnagiffllhbaa
open Go.RowKit

def mrowP (L : LayR) (msg masks : List Nat) : Nat → Nat := plusP L.p L.block (vanP L.p L.block masks masks.length) (invP L.p L.block L.block.log2 msg)

set_option maxRecDepth 100000 in
set_option maxHeartbeats 1000000 in
theorem mRow_any (L : LayR) (A B : Option Addr) (n c m d : Nat) (msg masks : List Nat) (w : World) (hL : LayOk L) (hl : RWd w [.slice A n c] msg) (hk : RWd w [.slice B m d] masks) (hn : n = L.block) (hm : m ≤ 60000) :
    Calls Try.prog 16 #[.agg (layCs L), .slice A n c, .slice B m d] w fun e w' => ∃ g, e = .returned (.slice (some ⟨g, 0, none⟩) (L.block + m) (L.block + m)) ∧ w.heap.size ≤ g ∧ Blk w' g 22 (fillC (L.block + m) (mrowP L msg masks)) ∧ Below w.heap.size w w' := by
  have hb2 := hL.b2
  obtain ⟨hlen, j, hj⟩ := layLen hL
  have hlog : L.block.log2 = j := by rw [hj]; exact Nat.log2_two_pow
  have hml := (lw_at hk).1
  subst hn
  have HI := Lib.hid (fun w' (hb : Below w.heap.size w w') => tInverse_any L.p A L.block c j msg w' hL.p (kept_RWd _ _ _ _ hb hl) hlen hj)
  have HV := Lib.hid (fun w' (hb : Below w.heap.size w w') => vanishing_any L B m d masks w' hL (kept_RWd _ _ _ _ hb hk) (by omega))
  have HA := Lib.hid (fun g gb a b w ka kb hg => madd_any L g gb (L.block + m) L.block a b w hL ka kb hg (by omega) (by omega))
  have HR := Lib.hid (show mrowP L msg masks = plusP L.p L.block (vanP L.p L.block masks m) (invP L.p L.block j msg) by unfold mrowP; rw [hlog, hml])
  rw [HR.out]
  clear hlog hml hlen hj hL hl hk
  unfold layCs fv at *
  have kl := Blk.new w 41 #[.int .u64 (L.p : Int), .int .i64 (L.block : Int), .int .i64 (L.queries : Int), .int .i64 (L.k : Int), .int .i64 (L.n : Int), .int .i64 (L.secret : Int), .int .i64 (L.rows : Int), .int .i64 (L.a : Int), .int .i64 (L.b : Int), .int .i64 (L.b : Int), .int .i64 (L.b : Int)]
  have hb0 : Below w.heap.size w (w.alloc (.cells #[.int .u64 (L.p : Int), .int .i64 (L.block : Int), .int .i64 (L.queries : Int), .int .i64 (L.k : Int), .int .i64 (L.n : Int), .int .i64 (L.secret : Int), .int .i64 (L.rows : Int), .int .i64 (L.a : Int), .int .i64 (L.b : Int), .int .i64 (L.b : Int), .int .i64 (L.b : Int)] 41)) := (Below.refl _ _).alloc (Nat.le_refl _) _
  generalize vanP L.p L.block masks m = V at *
  generalize invP L.p L.block j msg = I at *
  obtain ⟨t, ht⟩ : ∃ t, t = L.block + m := ⟨_, rfl⟩
  rw [← ht] at HV HA ⊢
  clear ht HR
  go_enter Try.func16, Try.ntmps16
  go_wp2_with fail
  generalize w.alloc _ = w0 at kl hb0 ⊢
  refine (HI.out _ hb0).mono ?_
  rintro e w1 ⟨g1, rfl, hg1, k1, hb1⟩
  have hl1 := kl.lt
  replace kl := kl.below hb1 kl.lt
  replace hb0 := below_chain hb0 hb1
  clear hb1
  have cl := kl.cell
  go_wp2_with fail
  refine (HV.out _ hb0).mono ?_
  rintro e w2 ⟨g2, rfl, hg2, k2, hb3⟩
  have hl2 := k1.lt
  replace kl := kl.below hb3 kl.lt
  replace k1 := k1.below hb3 k1.lt
  replace hb0 := below_chain hb0 hb3
  clear hb3 cl
  have cl := kl.cell
  have hne : g2 ≠ g1 := by omega
  go_wp2_with fail
  refine (HA.out g2 g1 V I _ k2 k1 hne).mono ?_
  rintro e w3 ⟨rfl, k3, hg3⟩
  have hge : w.heap.size ≤ g2 := by have := hb0.size; omega
  replace hb0 := hb0.trans (below_of_only hg3 hb0.size hge)
  go_wp2
  go_ret
  exact ⟨g2, rfl, hge, k3, hb0⟩

/-- Coins, as cells. -/
def coinCs (v0 v1 v2 v3 v4 : Value) : Array Value := #[v0, v1, v2, v3, v4]
set_option maxRecDepth 100000 in
set_option maxHeartbeats 1000000 in
theorem mQuad_any (L : LayR) (v0 v1 v2 v4 : Value) (A : Option Addr) (n c : Nat) (l : List Nat) (w : World) (hL : LayOk L) (h0 : slc v0) (h1 : slc v1) (h2 : slc v2) (h4 : slc v4) (hl : RWd w [.slice A n c] l) (hn : n ≤ 60000) :
    Calls Try.prog 57 #[.agg (layCs L), .agg #[v0, v1, v2, .slice A n c, v4]] w fun e w' => ∃ g, e = .returned (.slice (some ⟨g, 0, none⟩) (L.block + n) (L.block + n)) ∧ w.heap.size ≤ g ∧ Blk w' g 22 (fillC (L.block + n) (vanP L.p L.block l n)) ∧ Below w.heap.size w w' := by
  have HV := Lib.hid (fun w' (hb : Below w.heap.size w w') => vanishing_any L A n c l w' hL (kept_RWd _ _ _ _ hb hl) (by omega))
  obtain ⟨A0, n0, c0, rfl⟩ := h0
  obtain ⟨A1, n1, c1, rfl⟩ := h1
  obtain ⟨A2, n2, c2, rfl⟩ := h2
  obtain ⟨A4, n4, c4, rfl⟩ := h4
  clear hL hl
  generalize vanP L.p L.block l n = V at *
  obtain ⟨t, ht⟩ : ∃ t, t = L.block + n := ⟨_, rfl⟩
  rw [← ht] at HV ⊢
  clear ht
  unfold layCs at *
  obtain ⟨kl, kc, hb0, -⟩ := boxes2 w 41 39 #[.int .u64 (L.p : Int), .int .i64 (L.block : Int), .int .i64 (L.queries : Int), .int .i64 (L.k : Int), .int .i64 (L.n : Int), .int .i64 (L.secret : Int), .int .i64 (L.rows : Int), .int .i64 (L.a : Int), .int .i64 (L.b : Int), .int .i64 (L.b : Int), .int .i64 (L.b : Int)] #[.slice A0 n0 c0, .slice A1 n1 c1, .slice A2 n2 c2, .slice A n c, .slice A4 n4 c4]
  go_enter Try.func57, Try.ntmps57
  go_wp2_with fail
  refine (HV.out _ hb0).mono ?_
  rintro e w1 ⟨g1, rfl, hg1, k1, hb1⟩
  have hs := hb0.size
  go_wp2
  go_ret
  exact ⟨g1, rfl, by omega, k1, below_chain hb0 hb1⟩

set_option maxRecDepth 100000 in
set_option maxHeartbeats 1000000 in
theorem clone_any (A : Option Addr) (n c : Nat) (l : List Nat) (w : World) (hl : RWd w [.slice A n c] l) (hn : n ≤ 60000) :
    Calls Try.prog 95 #[.slice A n c] w fun e w' => ∃ v, e = .returned v ∧ w'.ownsRow w.heap.size 22 1 v n (U64 l) ∧ Below w.heap.size w w' := by
  obtain ⟨rfl, h1, h2, hlt, hrd⟩ := lw_at hl
  clear hl
  have hnil := fun (w : World) (a : Option Addr) (n c : Nat) => Lib.run_eql_slice_nil (P := Try.prog) w 28 22 a n c 0 0 Try.underlying28
  cases A with
  | none =>
    have h0 : l.length = 0 := by
      rcases Nat.eq_zero_or_pos l.length with h | h
      · exact h
      · obtain ⟨ad, e, -⟩ := hrd.2 h
        cases e
    have hl0 : l = [] := List.eq_nil_of_length_eq_zero h0
    subst hl0
    clear hrd h0 hlt
    go_enter Try.func95, Try.ntmps95
    go_wp2_with fail
    go_ret
    exact ⟨_, rfl, ⟨rfl, .inl ⟨rfl, rfl⟩⟩, Below.refl _ _⟩
  | some ad =>
    have gl : (l.length : Int) ≤ 60000 := by omega
    have hal := (Below.refl w.heap.size w).alloc (Nat.le_refl _) (.cells #[] 22)
    go_enter Try.func95, Try.ntmps95
    go_wp2_with (at_builtin; refine wpl_append rfl _ _ rfl el_w rfl (own_empty w 22 (Nat.le_refl _)) rfl (hrd.alloc _) (one_U64 l) (by omega) (by simp) ?_)
    intro v' wn hown' hgrow hblk
    have hB := lw_grow (own_empty w 22 (Nat.le_refl _)) hgrow (by simp)

    go_wp2
    go_ret
    exact ⟨_, rfl, hown', hal.trans hB⟩
end Go.Proofs.Ytefnagiffllhbaa

/- MkE -/
namespace Go.Proofs.Ytefnagiffllhbaa
open Go.RowKit

set_option maxRecDepth 100000 in
set_option maxHeartbeats 1000000 in
theorem mCode_any (L : LayR) (v0 v2 v3 v4 : Value) (A : Option Addr) (n c : Nat) (l : List Nat) (w : World) (h0 : slc v0) (h2 : slc v2) (h3 : slc v3) (h4 : slc v4) (hl : RWd w [.slice A n c] l) (hn : n ≤ 60000) :
    Calls Try.prog 55 #[.agg (layCs L), .agg #[v0, .slice A n c, v2, v3, v4]] w fun e w' => ∃ v, e = .returned v ∧ w'.ownsRow w.heap.size 22 1 v n (U64 l) ∧ Below w.heap.size w w' := by
  have HV := Lib.hid (fun w' (hb : Below w.heap.size w w') => clone_any A n c l w' (kept_RWd _ _ _ _ hb hl) hn)
  obtain ⟨A0, n0, c0, rfl⟩ := h0
  obtain ⟨A2, n2, c2, rfl⟩ := h2
  obtain ⟨A3, n3, c3, rfl⟩ := h3
  obtain ⟨A4, n4, c4, rfl⟩ := h4
  clear hl
  unfold layCs at *
  obtain ⟨kl, kc, hb0, -⟩ := boxes2 w 41 39 #[.int .u64 (L.p : Int), .int .i64 (L.block : Int), .int .i64 (L.queries : Int), .int .i64 (L.k : Int), .int .i64 (L.n : Int), .int .i64 (L.secret : Int), .int .i64 (L.rows : Int), .int .i64 (L.a : Int), .int .i64 (L.b : Int), .int .i64 (L.b : Int), .int .i64 (L.b : Int)] #[.slice A0 n0 c0, .slice A n c, .slice A2 n2 c2, .slice A3 n3 c3, .slice A4 n4 c4]
  go_enter Try.func55, Try.ntmps55
  go_wp2_with fail
  refine (HV.out _ hb0).mono ?_
  rintro e w1 ⟨v, rfl, ho, hb1⟩
  obtain ⟨A1, c1, rfl, -⟩ := own_form ho
  go_wp2
  go_ret
  exact ⟨_, rfl, own_base ho hb0.size, below_chain hb0 hb1⟩

/-- The constant of the linear mask: after k steps. -/
def linA (p b : Nat) (l : List Nat) : Nat → Nat
  | 0 => 0
  | k + 1 => (linA p b l k + negP p (l.getD ((k + 1) * b - 1) 0)) % p
def mlinP (L : LayR) (l : List Nat) : List Nat := linA L.p L.block l (l.length / L.block) :: l

set_option maxRecDepth 100000 in
set_option maxHeartbeats 2000000 in
theorem mLinear_any (L : LayR) (v0 v1 v3 v4 : Value) (A : Option Addr) (n c : Nat) (l : List Nat) (w : World) (hL : LayOk L) (h0 : slc v0) (h1 : slc v1) (h3 : slc v3) (h4 : slc v4) (hl : RWd w [.slice A n c] l) (hn : n ≤ 60000) :
    Calls Try.prog 56 #[.agg (layCs L), .agg #[v0, v1, .slice A n c, v3, v4]] w fun e w' => ∃ v, e = .returned v ∧ w'.ownsRow w.heap.size 22 1 v (n + 1) (U64 (mlinP L l)) ∧ Below w.heap.size w w' := by
  have hp := hL.p
  have hb1 := hL.b1
  have hb2 := hL.b2
  have HS := Lib.hid (fun a b w => fSub_any L.p a b w hp)
  obtain ⟨rfl, hx1, hx2, hlt, hrd⟩ := lw_at hl
  obtain ⟨A0, n0, c0, rfl⟩ := h0
  obtain ⟨A1, n1, c1, rfl⟩ := h1
  obtain ⟨A3, n3, c3, rfl⟩ := h3
  obtain ⟨A4, n4, c4, rfl⟩ := h4
  clear hl hL hx1 hx2 hp
  have gb : (L.block : Int) ≤ 256 := by omega
  have gb1 : (2 : Int) ≤ (L.block : Int) := by omega
  unfold layCs fv at *
  obtain ⟨kl, kc, kf, hb0, hsz⟩ := boxes3 w 41 39 88 #[.int .u64 (L.p : Int), .int .i64 (L.block : Int), .int .i64 (L.queries : Int), .int .i64 (L.k : Int), .int .i64 (L.n : Int), .int .i64 (L.secret : Int), .int .i64 (L.rows : Int), .int .i64 (L.a : Int), .int .i64 (L.b : Int), .int .i64 (L.b : Int), .int .i64 (L.b : Int)] #[.slice A0 n0 c0, .slice A1 n1 c1, .slice A l.length c, .slice A3 n3 c3, .slice A4 n4 c4] #[.int .u64 (L.p : Int)]
  go_enter Try.func56, Try.ntmps56
  go_upto_region 2 with fail
  generalize ((w.alloc _).alloc _).alloc _ = w1 at kl kc kf hb0 hsz ⊢
  have HZ := Lib.hid hsz
  clear hsz
  have hrd1 := hrd.below hb0
  have own0 := World.ownsRow_lit (base := w1.heap.size) (e := 22) (size := 1) w1 #[.int .u64 0] 1 (Nat.le_refl _) (by simp [maxLen]) rfl
  have hal := (Below.refl w1.heap.size w1).alloc (Nat.le_refl _) (.cells #[.int .u64 0] 22)
  have cc := kc.cell
  have lc := kc.lt
  go_upto_region 3 with (at_builtin; refine wpl_append rfl _ _ rfl el_w rfl own0 rfl (hrd1.below hal) (one_U64 l) (by omega) (by simp) ?_ ; intro v' w2 hown hgrow hblk)
  have hB := lw_grow own0 hgrow (by simp)
  replace hB := hal.trans hB
  clear own0 hgrow hblk hal hrd1 cc lc
  replace kl := kl.below hB kl.lt
  replace kf := kf.below hB kf.lt
  replace hb0 := below_chain hb0 hB
  clear hB kc
  obtain ⟨g, cap, rfl, hg1, -⟩ := World.ownsRow.form hown (by omega)
  have hg2 : w.heap.size + 3 ≤ g := by have := HZ.out; omega
  have e0 : (1 + l.length) = l.length + 1 := Nat.add_comm _ _
  rw [e0] at hown ⊢
  replace hown : w2.ownsRow w.heap.size 22 1 (.slice (some ⟨g, 0, none⟩) (l.length + 1) cap) (l.length + 1) (U64 (0 :: l)) := own_base hown (by have := HZ.out; omega)
  obtain ⟨n, hnn⟩ : ∃ n, n = l.length + 1 := ⟨_, rfl⟩
  rw [← hnn] at hown ⊢
  have HNN := Lib.hid hnn
  clear hnn e0 hg1 HZ
  have gn : (n : Int) ≤ 60001 := by have := HNN.out; omega
  have cl := kl.cell
  go_wp2_with fail
  clear cl
  go_loopw [7] (fun y wr => ∃ k i : Nat, y = .int .i64 (i : Int) ∧ Hid (i = (k + 1) * L.block ∧ k * L.block ≤ l.length) ∧ i ≤ 61000 ∧ 1 ≤ i ∧ Blk wr w.heap.size 41 #[.int .u64 (L.p : Int), .int .i64 (L.block : Int), .int .i64 (L.queries : Int), .int .i64 (L.k : Int), .int .i64 (L.n : Int), .int .i64 (L.secret : Int), .int .i64 (L.rows : Int), .int .i64 (L.a : Int), .int .i64 (L.b : Int), .int .i64 (L.b : Int), .int .i64 (L.b : Int)] ∧ Blk wr (w.heap.size + 1 + 1) 88 #[.int .u64 (L.p : Int)] ∧ wr.ownsRow w.heap.size 22 1 (.slice (some ⟨g, 0, none⟩) n cap) n (U64 (linA L.p L.block l k :: l)) ∧ Below w.heap.size w wr) (fun y _ => 61000 - (intOf y).toNat)
  case atStart => exact ⟨0, L.block, rfl, ⟨by omega, by omega⟩, by omega, by omega, kl, kf, hown, hb0⟩
  case round =>
    clear kl kf hown hb0
    obtain ⟨k, i, rfl, HK, hi1, hi2, kl, kf, hown, hb0⟩ := hrel
    have q0 : (0 : Int) < (i : Int) := by omega
    have q9 : (i : Int) ≤ 61000 := by omega
    by_cases hlt' : i < n
    · have q1 : (i : Int) < (n : Int) := by omega
      have q2 : (0 : Int) ≤ (i : Int) := by omega
      have q3 : (0 : Int) < (n : Int) := by omega
      have q5 : 0 < n := by omega
      obtain ⟨x, hx⟩ : ∃ x, x = linA L.p L.block l k := ⟨_, rfl⟩
      obtain ⟨y, hy⟩ : ∃ y, y = l.getD (i - 1) 0 := ⟨_, rfl⟩
      obtain ⟨z, hz⟩ : ∃ z, z = (x + negP L.p y) % L.p := ⟨_, rfl⟩
      obtain ⟨t, ht⟩ : ∃ t, t = i + L.block := ⟨_, rfl⟩
      have e1 : (i : Int) + (L.block : Int) = (t : Int) := by omega
      have e2 : IntKind.i64.wrap (t : Int) = (t : Int) := wr_i64 _ (by omega) (by omega)
      have HST := Lib.hid (show (U64 (x :: l)).set 0 (.int .u64 (z : Int)) = U64 (linA L.p L.block l (k + 1) :: l) by
        rw [hz, hx, hy, HK.out.1]; rfl)
      have HT : Hid (t = (k + 1 + 1) * L.block ∧ (k + 1) * L.block ≤ l.length) := by
        have h := HK.out
        have h2 := HNN.out
        have h3 : (k + 1 + 1) * L.block = (k + 1) * L.block + L.block := Nat.succ_mul _ _
        exact ⟨by omega, by omega⟩
      have ht3 : t ≤ 61000 := by have := HNN.out; omega
      have ht4 : 1 ≤ t := by omega
      have HC := Lib.hid (fun w => by have := HS.out x y w; rw [← hz] at this; exact this)
      rw [← hx] at hown
      have c0 : wr.cell? ⟨g, 0, none⟩ = some (.int .u64 (x : Int)) := by rw [hown.cellAt 0 (by omega)]; rfl
      have ci : wr.cell? ⟨g, i, none⟩ = some (.int .u64 (y : Int)) := by
        rw [hown.cellAt i (by omega), at_U64 (by simp; have := HNN.out; omega)]
        have : (x :: l)[i]'(by simp; have := HNN.out; omega) = y := by
          rw [hy, List.getElem_cons, dif_neg (by omega), List.getD_eq_getElem?_getD, List.getElem?_eq_getElem (show i - 1 < l.length by have := HNN.out; omega)]
          rfl
        rw [this]
      clear hx hy hz ht HK
      have cf := kf.cell
      have lf := kf.lt
      have lg : g < wr.heap.size := World.block_lt_of_cell? _ _ c0
      go_upto_region 6 with fail
      refine wpGO_begin (Later) (later_moves) [11] [11] [0, 1, 2, 3, 4, 5, 6, 7, 8, 9, 10, 11] (by kernel_rfl) (by kernel_rfl) ?_
      refine wpGO_start (later_moves) ?_
      intro Wc hacc
      repeat (first | (refine wpGO_skip (later_moves) rfl rfl rfl rfl (fun _ _ _ h => h) ?_ ; simp only [Act.put, List.setIfInBounds_toArray, List.set_cons_zero, List.set_cons_succ]) | (refine wpGO_light (v := ?_) (later_moves) rfl rfl rfl rfl (fun _ _ _ h => h) ?_ ?_ ; rotate_left ; (· (intro w' hR ; (first | have hcells := later_cellsD ((later_moves).trans _ _ _ hacc hR) | skip) ; go_simp ; try with_reducible rfl)) ; simp only [Act.put, List.setIfInBounds_toArray, List.set_cons_zero, List.set_cons_succ]) | (refine wpGO_free (v := ?_) rfl rfl rfl rfl (fun _ _ _ h => h) ?_ ?_ ; rotate_left ; (· (intro w' ; go_simp ; try with_reducible rfl)) ; simp only [Act.put, List.setIfInBounds_toArray, List.set_cons_zero, List.set_cons_succ]))
      refine wpGO_call (later_moves) rfl rfl rfl rfl (fun _ _ _ h => h) (fun _ => by go_simp <;> rfl) (fun w' hR => HC.out _) ?_
      simp only [Act.put, List.setIfInBounds_toArray, List.set_cons_zero, List.set_cons_succ]
      repeat (first | (refine wpGO_skip (later_moves) rfl rfl rfl rfl (fun _ _ _ h => h) ?_ ; simp only [Act.put, List.setIfInBounds_toArray, List.set_cons_zero, List.set_cons_succ]) | (refine wpGO_light (v := ?_) (later_moves) rfl rfl rfl rfl (fun _ _ _ h => h) ?_ ?_ ; rotate_left ; (· (intro w' hR ; (first | have hcells := later_cellsD ((later_moves).trans _ _ _ hacc hR) | skip) ; go_simp ; try with_reducible rfl)) ; simp only [Act.put, List.setIfInBounds_toArray, List.set_cons_zero, List.set_cons_succ]) | (refine wpGO_free (v := ?_) rfl rfl rfl rfl (fun _ _ _ h => h) ?_ ?_ ; rotate_left ; (· (intro w' ; go_simp ; try with_reducible rfl)) ; simp only [Act.put, List.setIfInBounds_toArray, List.set_cons_zero, List.set_cons_succ]))
      refine wpGO_heavy rfl rfl rfl rfl ?_
      intro wh hRh
      replace hacc := (later_moves).trans _ _ _ hacc hRh
      have hxd := below_chain (Below.refl wr.heap.size wr).drew hacc
      replace kl := kl.below hxd kl.lt
      replace kf := kf.below hxd kf.lt
      replace hown := own_below hown hxd (Nat.le_refl _)
      replace hb0 := below_chain hb0 hxd
      clear hxd hacc hRh cf lf lg c0 ci
      have c2 : wh.cell? ⟨g, 0, none⟩ = some (.int .u64 (x : Int)) := by rw [hown.cellAt 0 (by omega)]; rfl
      have f2 := hown.frozenAt
      go_simp
      refine ⟨fun h => Bool.noConfusion h, ?_⟩
      obtain ⟨hown2, hg⟩ := hown.stored 0 (.int .u64 (z : Int))
      rw [HST.out] at hown2
      replace kl := kl.grown hg (fun e => by have := Option.some.inj e; first | omega | (exact absurd this (by assumption)) | (exact absurd this.symm (by assumption)))
      replace kf := kf.grown hg (fun e => by have := Option.some.inj e; first | omega | (exact absurd this (by assumption)) | (exact absurd this.symm (by assumption)))
      replace hb0 := hb0.trans (below_of_only hg hb0.size (by omega))
      clear hg f2 c2 hown
      generalize wh.setCell _ _ = we at kl kf hown2 hb0 ⊢
      refine wpGO_doneP rfl ?_
      have cl := kl.cell
      go_wp2_with fail
      go_roundw
      case rel => exact ⟨k + 1, t, by go_num, HT.out, ht3, ht4, kl, kf, hown2, hb0⟩
      case measure => simp [intOf]; omega
    · have q1 : ¬ ((i : Int) < (n : Int)) := by omega
      have HE := Lib.hid (show linA L.p L.block l k = linA L.p L.block l (l.length / L.block) by
        have h := HK.out
        have h2 := HNN.out
        have : l.length / L.block = k := by
          rw [Nat.div_eq_iff (by omega)]
          have h3 : (k + 1) * L.block = k * L.block + L.block := Nat.succ_mul _ _
          omega
        rw [this])
      go_wp2
      go_ret
      rw [HE.out] at hown
      exact ⟨_, rfl, by rw [← HNN.out]; exact hown, hb0⟩
end Go.Proofs.Ytefnagiffllhbaa

/- PerA -/
namespace Go.Proofs.Ytefnagiffllhbaa
open Go.RowKit

/-- The permutation's state. -/
structure St where
  a : Nat
  b : Nat
  c : Nat
def St.val (s : St) : Value := .agg #[.int .u64 (s.a : Int), .int .u64 (s.b : Int), .int .u64 (s.c : Int)]
def St.cs (s : St) : Array Value := #[.int .u64 (s.a : Int), .int .u64 (s.b : Int), .int .u64 (s.c : Int)]
def St.ok (s : St) : Prop := s.a < 18446744073709551616 ∧ s.b < 18446744073709551616 ∧ s.c < 18446744073709551616
def mulW (k : Nat) : Nat := k * 11400714819323198485 % 18446744073709551616
/-- A round's constant. -/
def consP (p r i : Nat) : Nat := mulW (3 * r + i + 1) % p
def mixSum (p : Nat) (s : St) : Nat := ((s.a + s.b) % p + s.c) % p
def mixP (p : Nat) (s : St) : St := ⟨(s.a + mixSum p s) % p, (s.b + mixSum p s) % p, (s.c + mixSum p s) % p⟩

set_option maxRecDepth 100000 in
set_option maxHeartbeats 400000 in
theorem pConst_any (p r i : Nat) (w : World) (hp : okP p = true) (hr : r < 8) (hi : i < 3) :
    Calls Try.prog 110 #[.int .u64 p, .int .i64 (r : Int), .int .i64 (i : Int)] w fun e w' => e = .returned (.int .u64 (consP p r i : Int)) ∧ Below w.heap.size w w' := by
  have HR := Lib.hid (fun w => fReduce_any p (mulW (3 * r + i + 1)) w hp)
  have HC := Lib.hid (show consP p r i = mulW (3 * r + i + 1) % p from rfl)
  rw [HC.out]
  clear HC hp
  obtain ⟨k, hk⟩ : ∃ k, k = 3 * r + i + 1 := ⟨_, rfl⟩
  rw [← hk] at HR ⊢
  have g1 : (r : Int) < 8 := by omega
  have g2 : (i : Int) ≤ 2 := by omega
  have e1 : 3 * (r : Int) + (i : Int) + 1 = (k : Int) := by omega
  have e2 : IntKind.u64.wrap (k : Int) = (k : Int) := wr_nat _ (by omega)
  have e3 : IntKind.u64.wrap ((k : Int) * 11400714819323198485) = (mulW k : Int) := by
    rw [IntKind.wrap_u64]
    have : ((k : Int) * 11400714819323198485) = ((k * 11400714819323198485 : Nat) : Int) := by rw [Int.natCast_mul]; rfl
    rw [this]
    rfl
  clear hk hr hi
  generalize mulW k % p = m at *
  generalize mulW k = z at *
  unfold fv at *
  go_enter Try.func110, Try.ntmps110
  go_wp2_with fail
  refine (HR.out _).mono ?_
  rintro e w1 ⟨rfl, hb⟩
  go_wp2
  go_ret
  exact ⟨rfl, hb⟩

set_option maxRecDepth 100000 in
set_option maxHeartbeats 400000 in
theorem pMix_any (p : Nat) (s : St) (w : World) (hp : okP p = true) :
    Calls Try.prog 111 #[.int .u64 p, s.val] w fun e w' => e = .returned (mixP p s).val ∧ Below w.heap.size w w' := by
  obtain ⟨a, b, c⟩ := s
  have H1 := Lib.hid (fun w => fAdd_any p a b w hp)
  have H2 := Lib.hid (fun w => fAdd_any p ((a + b) % p) c w hp)
  have H3 := Lib.hid (fun w => fAdd_any p a (mixSum p ⟨a, b, c⟩) w hp)
  have H4 := Lib.hid (fun w => fAdd_any p b (mixSum p ⟨a, b, c⟩) w hp)
  have H5 := Lib.hid (fun w => fAdd_any p c (mixSum p ⟨a, b, c⟩) w hp)
  have HM := Lib.hid (show (mixP p ⟨a, b, c⟩).val = .agg #[.int .u64 (((a + mixSum p ⟨a, b, c⟩) % p : Nat) : Int), .int .u64 (((b + mixSum p ⟨a, b, c⟩) % p : Nat) : Int), .int .u64 (((c + mixSum p ⟨a, b, c⟩) % p : Nat) : Int)] from rfl)
  rw [HM.out]
  have HS := Lib.hid (show ((a + b) % p + c) % p = mixSum p ⟨a, b, c⟩ from rfl)
  rw [HS.out] at H2
  clear HM HS hp
  generalize (a + mixSum p ⟨a, b, c⟩) % p = x at *
  generalize (b + mixSum p ⟨a, b, c⟩) % p = y at *
  generalize (c + mixSum p ⟨a, b, c⟩) % p = z at *
  generalize mixSum p ⟨a, b, c⟩ = m at *
  generalize (a + b) % p = ab at *
  unfold St.val
  unfold fv at *
  simp only
  obtain ⟨k1, k2, k3, hb0, hsz⟩ := boxes3 w 120 120 88 #[.int .u64 (a : Int), .int .u64 (b : Int), .int .u64 (c : Int)] #[.int .u64 0, .int .u64 0, .int .u64 0] #[.int .u64 (p : Int)]
  go_enter Try.func111, Try.ntmps111
  go_wp2_with fail
  generalize ((w.alloc _).alloc _).alloc _ = w0 at k1 k2 k3 hb0 hsz ⊢
  have c1 := k1.cell
  have c3 := k3.cell
  have l1 := k1.lt
  have l3 := k3.lt
  refine wpGO_begin (Later) (later_moves) [] [] [0, 1, 2, 3, 4, 5, 6, 7, 8, 9, 10] (by kernel_rfl) (by kernel_rfl) ?_
  refine wpGO_start (later_moves) ?_
  intro Wc hacc
  repeat (first | (refine wpGO_skip (later_moves) rfl rfl rfl rfl (fun _ _ _ h => h) ?_ ; simp only [Act.put, List.setIfInBounds_toArray, List.set_cons_zero, List.set_cons_succ]) | (refine wpGO_light (v := ?_) (later_moves) rfl rfl rfl rfl (fun _ _ _ h => h) ?_ ?_ ; rotate_left ; (· (intro w' hR ; (first | have hcells := later_cellsD ((later_moves).trans _ _ _ hacc hR) | skip) ; go_simp ; try with_reducible rfl)) ; simp only [Act.put, List.setIfInBounds_toArray, List.set_cons_zero, List.set_cons_succ]))
  refine wpGO_call (later_moves) rfl rfl rfl rfl (fun _ _ _ h => h) (fun _ => by go_simp <;> rfl) (fun w' hR => H1.out _) ?_
  simp only [Act.put, List.setIfInBounds_toArray, List.set_cons_zero, List.set_cons_succ]
  repeat (first | (refine wpGO_skip (later_moves) rfl rfl rfl rfl (fun _ _ _ h => h) ?_ ; simp only [Act.put, List.setIfInBounds_toArray, List.set_cons_zero, List.set_cons_succ]) | (refine wpGO_light (v := ?_) (later_moves) rfl rfl rfl rfl (fun _ _ _ h => h) ?_ ?_ ; rotate_left ; (· (intro w' hR ; (first | have hcells := later_cellsD ((later_moves).trans _ _ _ hacc hR) | skip) ; go_simp ; try with_reducible rfl)) ; simp only [Act.put, List.setIfInBounds_toArray, List.set_cons_zero, List.set_cons_succ]))
  refine wpGO_call (later_moves) rfl rfl rfl rfl (fun _ _ _ h => h) (fun _ => by go_simp <;> rfl) (fun w' hR => H2.out _) ?_
  simp only [Act.put, List.setIfInBounds_toArray, List.set_cons_zero, List.set_cons_succ]
  repeat (first | (refine wpGO_skip (later_moves) rfl rfl rfl rfl (fun _ _ _ h => h) ?_ ; simp only [Act.put, List.setIfInBounds_toArray, List.set_cons_zero, List.set_cons_succ]) | (refine wpGO_light (v := ?_) (later_moves) rfl rfl rfl rfl (fun _ _ _ h => h) ?_ ?_ ; rotate_left ; (· (intro w' hR ; (first | have hcells := later_cellsD ((later_moves).trans _ _ _ hacc hR) | skip) ; go_simp ; try with_reducible rfl)) ; simp only [Act.put, List.setIfInBounds_toArray, List.set_cons_zero, List.set_cons_succ]))
  refine wpGO_done rfl ?_
  intro wd hRd
  replace hacc := (later_moves).trans _ _ _ hacc hRd
  clear hRd
  replace k1 := k1.drew.below hacc k1.lt
  replace k2 := k2.drew.below hacc k2.lt
  replace k3 := k3.drew.below hacc k3.lt
  replace hb0 := below_chain hb0.drew hacc
  have hsw : w.heap.size + 1 < wd.heap.size := k2.lt
  clear c1 c3 l1 l3 hacc hsz H1 H2
  have c1 := k1.cell
  have c3 := k3.cell
  have l1 := k1.lt
  have l3 := k3.lt
  go_wp2_with fail
  refine wpGO_begin (Later) (later_moves) [16] [16] [0, 1, 2, 3, 4, 5, 6, 7, 8, 9, 10, 11, 12, 13, 14, 15, 16] (by kernel_rfl) (by kernel_rfl) ?_
  refine wpGO_start (later_moves) ?_
  intro Wc hacc
  repeat (first | (refine wpGO_skip (later_moves) rfl rfl rfl rfl (fun _ _ _ h => h) ?_ ; simp only [Act.put, List.setIfInBounds_toArray, List.set_cons_zero, List.set_cons_succ]) | (refine wpGO_light (v := ?_) (later_moves) rfl rfl rfl rfl (fun _ _ _ h => h) ?_ ?_ ; rotate_left ; (· (intro w' hR ; (first | have hcells := later_cellsD ((later_moves).trans _ _ _ hacc hR) | skip) ; go_simp ; try with_reducible rfl)) ; simp only [Act.put, List.setIfInBounds_toArray, List.set_cons_zero, List.set_cons_succ]) | (refine wpGO_free (v := ?_) rfl rfl rfl rfl (fun _ _ _ h => h) ?_ ?_ ; rotate_left ; (· (intro w' ; go_simp ; try with_reducible rfl)) ; simp only [Act.put, List.setIfInBounds_toArray, List.set_cons_zero, List.set_cons_succ]))
  refine wpGO_call (later_moves) rfl rfl rfl rfl (fun _ _ _ h => h) (fun _ => by go_simp <;> rfl) (fun w' hR => H3.out _) ?_
  simp only [Act.put, List.setIfInBounds_toArray, List.set_cons_zero, List.set_cons_succ]
  repeat (first | (refine wpGO_skip (later_moves) rfl rfl rfl rfl (fun _ _ _ h => h) ?_ ; simp only [Act.put, List.setIfInBounds_toArray, List.set_cons_zero, List.set_cons_succ]) | (refine wpGO_light (v := ?_) (later_moves) rfl rfl rfl rfl (fun _ _ _ h => h) ?_ ?_ ; rotate_left ; (· (intro w' hR ; (first | have hcells := later_cellsD ((later_moves).trans _ _ _ hacc hR) | skip) ; go_simp ; try with_reducible rfl)) ; simp only [Act.put, List.setIfInBounds_toArray, List.set_cons_zero, List.set_cons_succ]) | (refine wpGO_free (v := ?_) rfl rfl rfl rfl (fun _ _ _ h => h) ?_ ?_ ; rotate_left ; (· (intro w' ; go_simp ; try with_reducible rfl)) ; simp only [Act.put, List.setIfInBounds_toArray, List.set_cons_zero, List.set_cons_succ]))
  refine wpGO_call (later_moves) rfl rfl rfl rfl (fun _ _ _ h => h) (fun _ => by go_simp <;> rfl) (fun w' hR => H4.out _) ?_
  simp only [Act.put, List.setIfInBounds_toArray, List.set_cons_zero, List.set_cons_succ]
  repeat (first | (refine wpGO_skip (later_moves) rfl rfl rfl rfl (fun _ _ _ h => h) ?_ ; simp only [Act.put, List.setIfInBounds_toArray, List.set_cons_zero, List.set_cons_succ]) | (refine wpGO_light (v := ?_) (later_moves) rfl rfl rfl rfl (fun _ _ _ h => h) ?_ ?_ ; rotate_left ; (· (intro w' hR ; (first | have hcells := later_cellsD ((later_moves).trans _ _ _ hacc hR) | skip) ; go_simp ; try with_reducible rfl)) ; simp only [Act.put, List.setIfInBounds_toArray, List.set_cons_zero, List.set_cons_succ]) | (refine wpGO_free (v := ?_) rfl rfl rfl rfl (fun _ _ _ h => h) ?_ ?_ ; rotate_left ; (· (intro w' ; go_simp ; try with_reducible rfl)) ; simp only [Act.put, List.setIfInBounds_toArray, List.set_cons_zero, List.set_cons_succ]))
  refine wpGO_call (later_moves) rfl rfl rfl rfl (fun _ _ _ h => h) (fun _ => by go_simp <;> rfl) (fun w' hR => H5.out _) ?_
  simp only [Act.put, List.setIfInBounds_toArray, List.set_cons_zero, List.set_cons_succ]
  repeat (first | (refine wpGO_skip (later_moves) rfl rfl rfl rfl (fun _ _ _ h => h) ?_ ; simp only [Act.put, List.setIfInBounds_toArray, List.set_cons_zero, List.set_cons_succ]) | (refine wpGO_light (v := ?_) (later_moves) rfl rfl rfl rfl (fun _ _ _ h => h) ?_ ?_ ; rotate_left ; (· (intro w' hR ; (first | have hcells := later_cellsD ((later_moves).trans _ _ _ hacc hR) | skip) ; go_simp ; try with_reducible rfl)) ; simp only [Act.put, List.setIfInBounds_toArray, List.set_cons_zero, List.set_cons_succ]) | (refine wpGO_free (v := ?_) rfl rfl rfl rfl (fun _ _ _ h => h) ?_ ?_ ; rotate_left ; (· (intro w' ; go_simp ; try with_reducible rfl)) ; simp only [Act.put, List.setIfInBounds_toArray, List.set_cons_zero, List.set_cons_succ]))
  refine wpGO_heavy rfl rfl rfl rfl ?_
  intro wh hRh
  replace hacc := (later_moves).trans _ _ _ hacc hRh
  replace k2 := k2.drew.below hacc k2.lt
  replace hb0 := below_chain hb0.drew hacc
  have c2 := k2.cell
  have f2 := k2.frozen
  have l2 := k2.lt
  go_simp
  refine ⟨fun h => Bool.noConfusion h, ?_⟩
  have hg := set3_grown (w := wh) (g := w.heap.size + 1) (.int .u64 (x : Int)) (.int .u64 (y : Int)) (.int .u64 (z : Int))
  have kz := set3_blk k2 (.int .u64 (x : Int)) (.int .u64 (y : Int)) (.int .u64 (z : Int))
  clear c2 f2 k2
  generalize ((World.setCell wh _ _).setCell _ _).setCell _ _ = Wf at hg kz ⊢
  have cz := kz.cell
  refine wpGO_doneP rfl ?_
  go_wp2
  exact bodyPost_ret (v := .agg #[.int .u64 (x : Int), .int .u64 (y : Int), .int .u64 (z : Int)]) (by simp [results, Try.results111, go_sem, cz]) rfl ⟨rfl, hb0.trans (below_of_only hg (by omega) (by omega))⟩
end Go.Proofs.Ytefnagiffllhbaa
