/- A part of the proof: MkC. No condition. -/
import Derived.Test.YtakjnmojigechaaGreatJA28
import Derived.Test.YtakjnmojigechaaGreatJA23

namespace Go.Proofs.YtakjnmojigechaaGreat
open Go.RowKit
def vanP (p b : Nat) (l : List Nat) : Nat → Nat → Nat
  | 0 => fun _ => 0
  | i + 1 =>
    let v := putF (vanP p b l i) i ((vanP p b l i i + negP p (l.getD i 0)) % p)
    putF v (b + i) ((v (b + i) + l.getD i 0) % p)
theorem layLen {L : LayR} (h : LayOk L) : LenOk L.p L.block ∧ ∃ j, L.block = 2 ^ j := by
  obtain ⟨j, hj⟩ := pow_of_and ⟨L.block, by have := h.b2; omega⟩ (by show 1 ≤ L.block; have := h.b1; omega) h.bj
  simp only at hj
  exact ⟨⟨by have := h.b1; omega, by have := h.b2; omega, ⟨_, hj⟩, h.bd⟩, _, hj⟩
set_option maxRecDepth 100000 in
set_option maxHeartbeats 2000000 in
theorem vanishing_any (L : LayR) (A : Option Addr) (m c : Nat) (l : List Nat) (w : World) (hL : LayOk L) (hl : RWd w [.slice A m c] l) (hm : m ≤ 65536) :
    Calls Tryz.prog 124 #[.agg (layCs L), .slice A m c] w fun e w' => ∃ g, e = .returned (.slice (some ⟨g, 0, none⟩) (L.block + m) (L.block + m)) ∧ w.heap.size ≤ g ∧ Blk w' g 22 (fillC (L.block + m) (vanP L.p L.block l m)) ∧ Below w.heap.size w w' := by
  have hp := hL.p
  have h1 := hL.b1
  have h2 := hL.b2
  have HA := Lib.hid (fun a b w => fAdd_any L.p a b w hp)
  have HS := Lib.hid (fun a b w => fSub_any L.p a b w hp)
  obtain ⟨rfl, -, -, -, hrd⟩ := lw_at hl
  obtain ⟨n, hn⟩ : ∃ n, n = L.block + l.length := ⟨_, rfl⟩
  rw [← hn]
  have en : (L.block : Int) + (l.length : Int) = (n : Int) := by omega
  have en2 : IntKind.i64.wrap (n : Int) = (n : Int) := wr_i64 _ (by omega) (by omega)
  have mk := mk_words n (by omega)
  have gb0 : (0 : Int) ≤ (L.block : Int) := by omega
  have gb : (L.block : Int) ≤ 256 := by omega
  have gl : (l.length : Int) ≤ 65536 := by omega
  have HNN := Lib.hid hn
  clear hL hl hp h1 hn
  unfold layCs fv at *
  obtain ⟨kl, kf, hb0, -⟩ := boxes2 w 55 96 #[.int .u64 (L.p : Int), .int .i64 (L.block : Int), .int .i64 (L.queries : Int), .int .i64 (L.k : Int), .int .i64 (L.n : Int), .int .i64 (L.secret : Int), .int .i64 (L.rows : Int), .int .i64 (L.a : Int), .int .i64 (L.b : Int), .int .i64 (L.b : Int), .int .i64 (L.b : Int)] #[.int .u64 (L.p : Int)]
  have hmax : max (0 : Int) (L.block : Int) = (L.block : Int) := Int.max_eq_right gb0
  go_enter Tryz.func124, Tryz.ntmps124
  go_upto_region 2 with fail
  generalize (w.alloc _).alloc _ = w0 at kl kf hb0 ⊢
  have cl := kl.cell
  go_wp2_with fail
  have kr := Blk.new w0 22 (fillC n fun _ => 0)
  have hal := (Below.refl w0.heap.size w0).alloc (Nat.le_refl _) (.cells (fillC n fun _ => 0) 22)
  have hg0 : w.heap.size + 1 < w0.heap.size := kf.lt
  replace kl := kl.below hal kl.lt
  replace kf := kf.below hal kf.lt
  replace hb0 := below_chain hb0 hal
  clear hal mk cl
  generalize w0.alloc _ = w5 at kl kf kr hb0 ⊢
  generalize w0.heap.size = g0 at kr hg0 ⊢
  go_loopw [21] (fun y wr => ∃ i : Nat, i ≤ l.length ∧ y = .int .i64 (i : Int) ∧ Blk wr w.heap.size 55 #[.int .u64 (L.p : Int), .int .i64 (L.block : Int), .int .i64 (L.queries : Int), .int .i64 (L.k : Int), .int .i64 (L.n : Int), .int .i64 (L.secret : Int), .int .i64 (L.rows : Int), .int .i64 (L.a : Int), .int .i64 (L.b : Int), .int .i64 (L.b : Int), .int .i64 (L.b : Int)] ∧ Blk wr (w.heap.size + 1) 96 #[.int .u64 (L.p : Int)] ∧ Blk wr g0 22 (fillC n (vanP L.p L.block l i)) ∧ Below w.heap.size w wr) (fun y _ => l.length - (intOf y).toNat)
  case atStart => exact ⟨0, Nat.zero_le _, rfl, kl, kf, kr, hb0⟩
  case round =>
    clear kl kf kr hb0
    obtain ⟨i, hi, rfl, kl, kf, kr, hb0⟩ := hrel
    by_cases hlt' : i < l.length
    · have q1 : (0 : Int) ≤ (i : Int) := by omega
      have q2 : (i : Int) < (l.length : Int) := by omega
      obtain ⟨b, q, rfl, hbl, hc⟩ := lw_get (hrd.below hb0) hlt'
      obtain ⟨y, hy⟩ : ∃ y, y = l.getD i 0 := ⟨_, rfl⟩
      obtain ⟨t, ht⟩ : ∃ t, t = L.block + i := ⟨_, rfl⟩
      obtain ⟨V, hV⟩ : ∃ V, V = vanP L.p L.block l i := ⟨_, rfl⟩
      obtain ⟨u, hu⟩ : ∃ u, u = V i := ⟨_, rfl⟩
      obtain ⟨z1, hz1⟩ : ∃ z1, z1 = (u + negP L.p y) % L.p := ⟨_, rfl⟩
      obtain ⟨V2, hV2⟩ : ∃ V2, V2 = putF V i z1 := ⟨_, rfl⟩
      obtain ⟨u2, hu2⟩ : ∃ u2, u2 = V2 t := ⟨_, rfl⟩
      obtain ⟨z2, hz2⟩ : ∃ z2, z2 = (u2 + y) % L.p := ⟨_, rfl⟩
      have hin : i < n := by have := HNN.out; omega
      have htn : t < n := by have := HNN.out; omega
      have e1 : (L.block : Int) + (i : Int) = (t : Int) := by omega
      have e2 : IntKind.i64.wrap (t : Int) = (t : Int) := wr_i64 _ (by omega) (by omega)
      have e3 : (t : Int) < (n : Int) := by omega
      have e4 : (i : Int) < (n : Int) := by omega
      have e5 : (0 : Int) ≤ (t : Int) := by omega
      have HST1 := Lib.hid (show (fillC n V).setIfInBounds i (.int .u64 (z1 : Int)) = fillC n V2 by rw [fill_set, hV2])
      have HST2 := Lib.hid (show (fillC n V2).setIfInBounds t (.int .u64 (z2 : Int)) = fillC n (vanP L.p L.block l (i + 1)) by rw [fill_set, hz2, hu2, hV2, hz1, hu, hV, hy, ht]; rfl)
      have HC1 := Lib.hid (fun w => by have := HS.out u y w; rw [← hz1] at this; exact this)
      have HC2 := Lib.hid (fun w => by have := HA.out u2 y w; rw [← hz2] at this; exact this)
      rw [← hV] at kr
      have cr := kr.cell i
      rw [fill_get _ hin, ← hu] at cr
      rw [← hy] at hc
      have HU := Lib.hid hu
      have HU2 := Lib.hid hu2
      clear hy ht hV hu hz1 hV2 hu2 hz2
      have cf := kf.cell
      have lf := kf.lt
      have lr := kr.lt
      go_upto_region 6 with fail
      refine wpGO_begin (Later) (later_moves) [10] [10] [0, 1, 2, 3, 4, 5, 6, 7, 8, 9, 10] (by kernel_rfl) (by kernel_rfl) ?_
      refine wpGO_start (later_moves) ?_
      intro Wc hacc
      repeat (first | (refine wpGO_skip (later_moves) rfl rfl rfl rfl (fun _ _ _ h => h) ?_ ; simp only [Act.put, List.setIfInBounds_toArray, List.set_cons_zero, List.set_cons_succ]) | (refine wpGO_light (v := ?_) (later_moves) rfl rfl rfl rfl (fun _ _ _ h => h) ?_ ?_ ; rotate_left ; (· (intro w' hR ; (first | have hcells := later_cellsD ((later_moves).trans _ _ _ hacc hR) | skip) ; go_simp ; try with_reducible rfl)) ; simp only [Act.put, List.setIfInBounds_toArray, List.set_cons_zero, List.set_cons_succ]) | (refine wpGO_free (v := ?_) rfl rfl rfl rfl (fun _ _ _ h => h) ?_ ?_ ; rotate_left ; (· (intro w' ; go_simp ; try with_reducible rfl)) ; simp only [Act.put, List.setIfInBounds_toArray, List.set_cons_zero, List.set_cons_succ]))
      refine wpGO_call (later_moves) rfl rfl rfl rfl (fun _ _ _ h => h) (fun _ => by go_simp <;> rfl) (fun w' hR => HC1.out _) ?_
      simp only [Act.put, List.setIfInBounds_toArray, List.set_cons_zero, List.set_cons_succ]
      repeat (first | (refine wpGO_skip (later_moves) rfl rfl rfl rfl (fun _ _ _ h => h) ?_ ; simp only [Act.put, List.setIfInBounds_toArray, List.set_cons_zero, List.set_cons_succ]) | (refine wpGO_light (v := ?_) (later_moves) rfl rfl rfl rfl (fun _ _ _ h => h) ?_ ?_ ; rotate_left ; (· (intro w' hR ; (first | have hcells := later_cellsD ((later_moves).trans _ _ _ hacc hR) | skip) ; go_simp ; try with_reducible rfl)) ; simp only [Act.put, List.setIfInBounds_toArray, List.set_cons_zero, List.set_cons_succ]) | (refine wpGO_free (v := ?_) rfl rfl rfl rfl (fun _ _ _ h => h) ?_ ?_ ; rotate_left ; (· (intro w' ; go_simp ; try with_reducible rfl)) ; simp only [Act.put, List.setIfInBounds_toArray, List.set_cons_zero, List.set_cons_succ]))
      refine wpGO_heavy rfl rfl rfl rfl ?_
      intro wh hRh
      replace hacc := (later_moves).trans _ _ _ hacc hRh
      have hxd := below_chain (Below.refl wr.heap.size wr).drew hacc
      replace kl := kl.below hxd kl.lt
      replace kf := kf.below hxd kf.lt
      replace kr := kr.below hxd kr.lt
      replace hb0 := below_chain hb0 hxd
      clear hxd hacc hRh cf lf lr cr hc
      have c2 := kr.cell i
      rw [fill_get _ hin, ← HU.out] at c2
      have f2 := kr.frozen
      go_simp
      refine ⟨fun h => Bool.noConfusion h, ?_⟩
      have hg := set_only (w := wh) g0 i (.int .u64 (z1 : Int))
      replace kl := kl.grown hg (fun e => by have := Option.some.inj e; first | omega | (exact absurd this (by assumption)) | (exact absurd this.symm (by assumption)))
      replace kf := kf.grown hg (fun e => by have := Option.some.inj e; first | omega | (exact absurd this (by assumption)) | (exact absurd this.symm (by assumption)))
      replace hb0 := hb0.trans (below_of_only hg hb0.size (by omega))
      replace kr := kr.set_ i (.int .u64 (z1 : Int))
      rw [HST1.out] at kr
      clear hg f2 c2
      generalize wh.setCell _ _ = we at kl kf kr hb0 ⊢
      refine wpGO_doneP rfl ?_
      have cr := kr.cell t
      rw [fill_get _ htn, ← HU2.out] at cr
      have cl := kl.cell
      have ll := kl.lt
      have cf := kf.cell
      have lf := kf.lt
      have lr := kr.lt
      go_upto_region 7 with fail
      refine wpGO_begin (Later) (later_moves) [16] [16] [0, 1, 2, 3, 4, 5, 6, 7, 8, 9, 10, 11, 12, 13, 14, 15, 16] (by kernel_rfl) (by kernel_rfl) ?_
      refine wpGO_start (later_moves) ?_
      intro Wc hacc
      repeat (first | (refine wpGO_skip (later_moves) rfl rfl rfl rfl (fun _ _ _ h => h) ?_ ; simp only [Act.put, List.setIfInBounds_toArray, List.set_cons_zero, List.set_cons_succ]) | (refine wpGO_light (v := ?_) (later_moves) rfl rfl rfl rfl (fun _ _ _ h => h) ?_ ?_ ; rotate_left ; (· (intro w' hR ; (first | have hcells := later_cellsD ((later_moves).trans _ _ _ hacc hR) | skip) ; go_simp ; try with_reducible rfl)) ; simp only [Act.put, List.setIfInBounds_toArray, List.set_cons_zero, List.set_cons_succ]) | (refine wpGO_free (v := ?_) rfl rfl rfl rfl (fun _ _ _ h => h) ?_ ?_ ; rotate_left ; (· (intro w' ; go_simp ; try with_reducible rfl)) ; simp only [Act.put, List.setIfInBounds_toArray, List.set_cons_zero, List.set_cons_succ]))
      refine wpGO_call (later_moves) rfl rfl rfl rfl (fun _ _ _ h => h) (fun _ => by go_simp <;> rfl) (fun w' hR => HC2.out _) ?_
      simp only [Act.put, List.setIfInBounds_toArray, List.set_cons_zero, List.set_cons_succ]
      repeat (first | (refine wpGO_skip (later_moves) rfl rfl rfl rfl (fun _ _ _ h => h) ?_ ; simp only [Act.put, List.setIfInBounds_toArray, List.set_cons_zero, List.set_cons_succ]) | (refine wpGO_light (v := ?_) (later_moves) rfl rfl rfl rfl (fun _ _ _ h => h) ?_ ?_ ; rotate_left ; (· (intro w' hR ; (first | have hcells := later_cellsD ((later_moves).trans _ _ _ hacc hR) | skip) ; go_simp ; try with_reducible rfl)) ; simp only [Act.put, List.setIfInBounds_toArray, List.set_cons_zero, List.set_cons_succ]) | (refine wpGO_free (v := ?_) rfl rfl rfl rfl (fun _ _ _ h => h) ?_ ?_ ; rotate_left ; (· (intro w' ; go_simp ; try with_reducible rfl)) ; simp only [Act.put, List.setIfInBounds_toArray, List.set_cons_zero, List.set_cons_succ]))
      refine wpGO_heavy rfl rfl rfl rfl ?_
      intro wh hRh
      replace hacc := (later_moves).trans _ _ _ hacc hRh
      have hxd := below_chain (Below.refl we.heap.size we).drew hacc
      replace kl := kl.below hxd kl.lt
      replace kf := kf.below hxd kf.lt
      replace kr := kr.below hxd kr.lt
      replace hb0 := below_chain hb0 hxd
      clear hxd hacc hRh cf lf lr cr cl ll
      have c2 := kr.cell t
      rw [fill_get _ htn, ← HU2.out] at c2
      have f2 := kr.frozen
      go_simp
      refine ⟨fun h => Bool.noConfusion h, ?_⟩
      have hg := set_only (w := wh) g0 t (.int .u64 (z2 : Int))
      replace kl := kl.grown hg (fun e => by have := Option.some.inj e; first | omega | (exact absurd this (by assumption)) | (exact absurd this.symm (by assumption)))
      replace kf := kf.grown hg (fun e => by have := Option.some.inj e; first | omega | (exact absurd this (by assumption)) | (exact absurd this.symm (by assumption)))
      replace hb0 := hb0.trans (below_of_only hg hb0.size (by omega))
      replace kr := kr.set_ t (.int .u64 (z2 : Int))
      rw [HST2.out] at kr
      clear hg f2 c2
      generalize wh.setCell _ _ = wi at kl kf kr hb0 ⊢
      refine wpGO_doneP rfl ?_
      go_wp2
      go_roundw
      case rel => exact ⟨i + 1, by omega, by go_num, kl, kf, kr, hb0⟩
      case measure => simp [intOf]; omega
    · obtain rfl : l.length = i := by omega
      go_wp2
      go_ret
      exact ⟨g0, rfl, by omega, kr, hb0⟩
def plusP (p nb : Nat) (A B : Nat → Nat) : Nat → Nat := fun k => if k < nb then (A k + B k) % p else A k
set_option maxRecDepth 100000 in
set_option maxHeartbeats 2000000 in
theorem madd_any (L : LayR) (g gb m nb : Nat) (a b : Nat → Nat) (w : World) (hL : LayOk L) (ka : Blk w g 22 (fillC m a)) (kb : Blk w gb 22 (fillC nb b)) (hg : g ≠ gb) (hm : m ≤ 65536) (hnb : nb ≤ m) :
    Calls Tryz.prog 125 #[.agg (layCs L), .slice (some ⟨g, 0, none⟩) m m, .slice (some ⟨gb, 0, none⟩) nb nb] w fun e w' => e = .returned (.slice (some ⟨g, 0, none⟩) m m) ∧ Blk w' g 22 (fillC m (plusP L.p nb a b)) ∧ w.grownBy w' (some g) := by
  have hp := hL.p
  have HA := Lib.hid (fun a b w => fAdd_any L.p a b w hp)
  have hmin : min (m : Int) (nb : Int) = (nb : Int) := Int.min_eq_right (by omega)
  have gl : (m : Int) ≤ 65536 := by omega
  have gl2 : (nb : Int) ≤ 65536 := by omega
  have lg := ka.lt
  have lgb := kb.lt
  clear hL hp
  unfold layCs fv at *
  obtain ⟨kl, kf, hb0, -⟩ := boxes2 w 55 96 #[.int .u64 (L.p : Int), .int .i64 (L.block : Int), .int .i64 (L.queries : Int), .int .i64 (L.k : Int), .int .i64 (L.n : Int), .int .i64 (L.secret : Int), .int .i64 (L.rows : Int), .int .i64 (L.a : Int), .int .i64 (L.b : Int), .int .i64 (L.b : Int), .int .i64 (L.b : Int)] #[.int .u64 (L.p : Int)]
  have g1 : w.heap.size + 1 ≠ g := by omega
  replace ka := ka.below hb0 ka.lt
  replace kb := kb.below hb0 kb.lt
  have hgr := grown_below (grown_refl' w (some g)) hb0 (Nat.le_refl _)
  clear hb0 kl
  go_enter Tryz.func125, Tryz.ntmps125
  go_upto_region 2 with fail
  generalize (w.alloc _).alloc _ = w0 at kf ka kb hgr ⊢
  rw [show fillC m a = fillC m (fun k => if k < 0 then (a k + b k) % L.p else a k) from fill_same fun i _ => by rw [if_neg (by omega)]] at ka
  go_wp2_with fail
  go_loopw [17] (fun y wr => ∃ i : Nat, i ≤ nb ∧ y = .int .i64 (i : Int) ∧ Blk wr (w.heap.size + 1) 96 #[.int .u64 (L.p : Int)] ∧ Blk wr g 22 (fillC m (fun k => if k < i then (a k + b k) % L.p else a k)) ∧ Blk wr gb 22 (fillC nb b) ∧ w.grownBy wr (some g)) (fun y _ => nb - (intOf y).toNat)
  case atStart => exact ⟨0, Nat.zero_le _, rfl, kf, ka, kb, hgr⟩
  case round =>
    clear kf ka kb hgr
    obtain ⟨i, hi, rfl, kf, ka, kb, hgr⟩ := hrel
    by_cases hlt' : i < nb
    · have q1 : (0 : Int) ≤ (i : Int) := by omega
      have q2 : (i : Int) < (nb : Int) := by omega
      have q3 : (i : Int) < (m : Int) := by omega
      have him : i < m := by omega
      obtain ⟨x, hx⟩ : ∃ x, x = a i := ⟨_, rfl⟩
      obtain ⟨y, hy⟩ : ∃ y, y = b i := ⟨_, rfl⟩
      obtain ⟨z, hz⟩ : ∃ z, z = (x + y) % L.p := ⟨_, rfl⟩
      have HST := Lib.hid (show (fillC m (fun k => if k < i then (a k + b k) % L.p else a k)).setIfInBounds i (.int .u64 (z : Int)) = fillC m (fun k => if k < i + 1 then (a k + b k) % L.p else a k) from upTo_set (F := fun k => (a k + b k) % L.p) (G := a) (by rw [hz, hx, hy]))
      have HC := Lib.hid (fun w => by have := HA.out x y w; rw [← hz] at this; exact this)
      have HX := Lib.hid (show (fillC m (fun k => if k < i then (a k + b k) % L.p else a k))[i]? = some (.int .u64 (x : Int)) by rw [fill_get _ him, hx]; simp)
      have ca := ka.cell i
      rw [HX.out] at ca
      have cb := kb.cell i
      rw [fill_get _ hlt', ← hy] at cb
      clear hx hy hz
      have cf := kf.cell
      have lf := kf.lt
      have la := ka.lt
      have lb := kb.lt
      go_upto_region 5 with fail
      refine wpGO_begin (Later) (later_moves) [13] [13] [0, 1, 2, 3, 4, 5, 6, 7, 8, 9, 10, 11, 12, 13] (by kernel_rfl) (by kernel_rfl) ?_
      refine wpGO_start (later_moves) ?_
      intro Wc hacc
      repeat (first | (refine wpGO_skip (later_moves) rfl rfl rfl rfl (fun _ _ _ h => h) ?_ ; simp only [Act.put, List.setIfInBounds_toArray, List.set_cons_zero, List.set_cons_succ]) | (refine wpGO_light (v := ?_) (later_moves) rfl rfl rfl rfl (fun _ _ _ h => h) ?_ ?_ ; rotate_left ; (· (intro w' hR ; (first | have hcells := later_cellsD ((later_moves).trans _ _ _ hacc hR) | skip) ; go_simp ; try with_reducible rfl)) ; simp only [Act.put, List.setIfInBounds_toArray, List.set_cons_zero, List.set_cons_succ]) | (refine wpGO_free (v := ?_) rfl rfl rfl rfl (fun _ _ _ h => h) ?_ ?_ ; rotate_left ; (· (intro w' ; go_simp ; try with_reducible rfl)) ; simp only [Act.put, List.setIfInBounds_toArray, List.set_cons_zero, List.set_cons_succ]))
      refine wpGO_call (later_moves) rfl rfl rfl rfl (fun _ _ _ h => h) (fun _ => by go_simp <;> rfl) (fun w' hR => HC.out _) ?_
      simp only [Act.put, List.setIfInBounds_toArray, List.set_cons_zero, List.set_cons_succ]
      repeat (first | (refine wpGO_skip (later_moves) rfl rfl rfl rfl (fun _ _ _ h => h) ?_ ; simp only [Act.put, List.setIfInBounds_toArray, List.set_cons_zero, List.set_cons_succ]) | (refine wpGO_light (v := ?_) (later_moves) rfl rfl rfl rfl (fun _ _ _ h => h) ?_ ?_ ; rotate_left ; (· (intro w' hR ; (first | have hcells := later_cellsD ((later_moves).trans _ _ _ hacc hR) | skip) ; go_simp ; try with_reducible rfl)) ; simp only [Act.put, List.setIfInBounds_toArray, List.set_cons_zero, List.set_cons_succ]) | (refine wpGO_free (v := ?_) rfl rfl rfl rfl (fun _ _ _ h => h) ?_ ?_ ; rotate_left ; (· (intro w' ; go_simp ; try with_reducible rfl)) ; simp only [Act.put, List.setIfInBounds_toArray, List.set_cons_zero, List.set_cons_succ]))
      refine wpGO_heavy rfl rfl rfl rfl ?_
      intro wh hRh
      replace hacc := (later_moves).trans _ _ _ hacc hRh
      have hxd := below_chain (Below.refl wr.heap.size wr).drew hacc
      have hgr2 := grown_below hgr hxd hgr.size
      replace kf := kf.below hxd kf.lt
      replace ka := ka.below hxd ka.lt
      replace kb := kb.below hxd kb.lt
      clear hxd hacc hRh cf lf la lb ca cb hgr
      have c2 := ka.cell i
      rw [HX.out] at c2
      have f2 := ka.frozen
      go_simp
      refine ⟨fun h => Bool.noConfusion h, ?_⟩
      have hg3 := set_only (w := wh) g i (.int .u64 (z : Int))
      replace kf := kf.grown hg3 (fun e => by have := Option.some.inj e; first | omega | (exact absurd this (by assumption)) | (exact absurd this.symm (by assumption)))
      replace kb := kb.grown hg3 (fun e => by have := Option.some.inj e; first | omega | (exact absurd this (by assumption)) | (exact absurd this.symm (by assumption)))
      replace ka := ka.set_ i (.int .u64 (z : Int))
      rw [HST.out] at ka
      have hgr := grown_step hgr2 hg3 (fun _ e => .inl e)
      clear hg3 f2 c2 hgr2
      generalize wh.setCell _ _ = we at kf ka kb hgr ⊢
      refine wpGO_doneP rfl ?_
      go_wp2
      go_roundw
      case rel => exact ⟨i + 1, by omega, by go_num, kf, ka, kb, hgr⟩
      case measure => simp [intOf]; omega
    · obtain rfl : nb = i := by omega
      go_wp2
      go_ret
      exact ⟨rfl, ka, hgr⟩
end Go.Proofs.YtakjnmojigechaaGreat
