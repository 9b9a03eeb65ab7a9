/- A part of the proof: MkE. No condition. -/
import Derived.Deep.AppendLies
import Derived.Laws.OwnMore
import Derived.Test.YtakjnmojigechaaGreatJA30

namespace Go.Proofs.YtakjnmojigechaaGreat
open Go.RowKit
set_option maxRecDepth 100000 in
set_option maxHeartbeats 1000000 in
theorem mCode_any (L : LayR) (v0 v2 v3 v4 : Value) (A : Option Addr) (n c : Nat) (l : List Nat) (w : World) (h0 : slc v0) (h2 : slc v2) (h3 : slc v3) (h4 : slc v4) (hl : RWd w [.slice A n c] l) (hn : n ≤ 60000) :
    Calls Tryz.prog 65 #[.agg (layCs L), .agg #[v0, .slice A n c, v2, v3, v4]] w fun e w' => ∃ v, e = .returned v ∧ w'.ownsRow w.heap.size 22 1 v n (U64 l) ∧ Below w.heap.size w w' := by
  have HV := Lib.hid (fun w' (hb : Below w.heap.size w w') => clone_any A n c l w' (kept_RWd _ _ _ _ hb hl) hn)
  obtain ⟨A0, n0, c0, rfl⟩ := h0
  obtain ⟨A2, n2, c2, rfl⟩ := h2
  obtain ⟨A3, n3, c3, rfl⟩ := h3
  obtain ⟨A4, n4, c4, rfl⟩ := h4
  clear hl
  unfold layCs at *
  obtain ⟨kl, kc, hb0, -⟩ := boxes2 w 55 42 #[.int .u64 (L.p : Int), .int .i64 (L.block : Int), .int .i64 (L.queries : Int), .int .i64 (L.k : Int), .int .i64 (L.n : Int), .int .i64 (L.secret : Int), .int .i64 (L.rows : Int), .int .i64 (L.a : Int), .int .i64 (L.b : Int), .int .i64 (L.b : Int), .int .i64 (L.b : Int)] #[.slice A0 n0 c0, .slice A n c, .slice A2 n2 c2, .slice A3 n3 c3, .slice A4 n4 c4]
  go_enter Tryz.func65, Tryz.ntmps65
  go_wp2_with fail
  refine (HV.out _ hb0).mono ?_
  rintro e w1 ⟨v, rfl, ho, hb1⟩
  obtain ⟨A1, c1, rfl, -⟩ := own_form ho
  go_wp2
  go_ret
  exact ⟨_, rfl, own_base ho hb0.size, below_chain hb0 hb1⟩
def linA (p b : Nat) (l : List Nat) : Nat → Nat
  | 0 => 0
  | k + 1 => (linA p b l k + negP p (l.getD ((k + 1) * b - 1) 0)) % p
def mlinP (L : LayR) (l : List Nat) : List Nat := linA L.p L.block l (l.length / L.block) :: l
set_option maxRecDepth 100000 in
set_option maxHeartbeats 2000000 in
theorem mLinear_any (L : LayR) (v0 v1 v3 v4 : Value) (A : Option Addr) (n c : Nat) (l : List Nat) (w : World) (hL : LayOk L) (h0 : slc v0) (h1 : slc v1) (h3 : slc v3) (h4 : slc v4) (hl : RWd w [.slice A n c] l) (hn : n ≤ 60000) :
    Calls Tryz.prog 66 #[.agg (layCs L), .agg #[v0, v1, .slice A n c, v3, v4]] w fun e w' => ∃ v, e = .returned v ∧ w'.ownsRow w.heap.size 22 1 v (n + 1) (U64 (mlinP L l)) ∧ Below w.heap.size w w' := by
  have hp := hL.p
  have hb1 := hL.b1
  have hb2 := hL.b2
  have HS := Lib.hid (fun a b w => fSub_any L.p a b w hp)
  obtain ⟨rfl, hx1, hx2, hlt, hrd⟩ := lw_at hl
  obtain ⟨A0, n0, c0, rfl⟩ := h0
  obtain ⟨A1, n1, c1, rfl⟩ := h1
  obtain ⟨A3, n3, c3, rfl⟩ := h3
  obtain ⟨A4, n4, c4, rfl⟩ := h4
  clear hl hL hx1 hx2 hp
  have gb : (L.block : Int) ≤ 256 := by omega
  have gb1 : (2 : Int) ≤ (L.block : Int) := by omega
  unfold layCs fv at *
  obtain ⟨kl, kc, kf, hb0, hsz⟩ := boxes3 w 55 42 96 #[.int .u64 (L.p : Int), .int .i64 (L.block : Int), .int .i64 (L.queries : Int), .int .i64 (L.k : Int), .int .i64 (L.n : Int), .int .i64 (L.secret : Int), .int .i64 (L.rows : Int), .int .i64 (L.a : Int), .int .i64 (L.b : Int), .int .i64 (L.b : Int), .int .i64 (L.b : Int)] #[.slice A0 n0 c0, .slice A1 n1 c1, .slice A l.length c, .slice A3 n3 c3, .slice A4 n4 c4] #[.int .u64 (L.p : Int)]
  go_enter Tryz.func66, Tryz.ntmps66
  go_upto_region 2 with fail
  generalize ((w.alloc _).alloc _).alloc _ = w1 at kl kc kf hb0 hsz ⊢
  have HZ := Lib.hid hsz
  clear hsz
  have hrd1 := hrd.below hb0
  have own0 := World.ownsRow_lit (base := w1.heap.size) (e := 22) (size := 1) w1 #[.int .u64 0] 1 (Nat.le_refl _) (by simp [maxLen]) rfl
  have hal := (Below.refl w1.heap.size w1).alloc (Nat.le_refl _) (.cells #[.int .u64 0] 22)
  have cc := kc.cell
  have lc := kc.lt
  go_upto_region 3 with (at_builtin; refine wpl_append rfl _ _ rfl el_w rfl own0 rfl (hrd1.below hal) (one_U64 l) (by omega) (by simp) ?_ ; intro v' w2 hown hgrow hblk)
  have hB := lw_grow own0 hgrow (by simp)
  replace hB := hal.trans hB
  clear own0 hgrow hblk hal hrd1 cc lc
  replace kl := kl.below hB kl.lt
  replace kf := kf.below hB kf.lt
  replace hb0 := below_chain hb0 hB
  clear hB kc
  obtain ⟨g, cap, rfl, hg1, -⟩ := World.ownsRow.form hown (by omega)
  have hg2 : w.heap.size + 3 ≤ g := by have := HZ.out; omega
  have e0 : (1 + l.length) = l.length + 1 := Nat.add_comm _ _
  rw [e0] at hown ⊢
  replace hown : w2.ownsRow w.heap.size 22 1 (.slice (some ⟨g, 0, none⟩) (l.length + 1) cap) (l.length + 1) (U64 (0 :: l)) := own_base hown (by have := HZ.out; omega)
  obtain ⟨n, hnn⟩ : ∃ n, n = l.length + 1 := ⟨_, rfl⟩
  rw [← hnn] at hown ⊢
  have HNN := Lib.hid hnn
  clear hnn e0 hg1 HZ
  have gn : (n : Int) ≤ 60001 := by have := HNN.out; omega
  have cl := kl.cell
  go_wp2_with fail
  clear cl
  go_loopw [7] (fun y wr => ∃ k i : Nat, y = .int .i64 (i : Int) ∧ Hid (i = (k + 1) * L.block ∧ k * L.block ≤ l.length) ∧ i ≤ 61000 ∧ 1 ≤ i ∧ Blk wr w.heap.size 55 #[.int .u64 (L.p : Int), .int .i64 (L.block : Int), .int .i64 (L.queries : Int), .int .i64 (L.k : Int), .int .i64 (L.n : Int), .int .i64 (L.secret : Int), .int .i64 (L.rows : Int), .int .i64 (L.a : Int), .int .i64 (L.b : Int), .int .i64 (L.b : Int), .int .i64 (L.b : Int)] ∧ Blk wr (w.heap.size + 1 + 1) 96 #[.int .u64 (L.p : Int)] ∧ wr.ownsRow w.heap.size 22 1 (.slice (some ⟨g, 0, none⟩) n cap) n (U64 (linA L.p L.block l k :: l)) ∧ Below w.heap.size w wr) (fun y _ => 61000 - (intOf y).toNat)
  case atStart => exact ⟨0, L.block, rfl, ⟨by omega, by omega⟩, by omega, by omega, kl, kf, hown, hb0⟩
  case round =>
    clear kl kf hown hb0
    obtain ⟨k, i, rfl, HK, hi1, hi2, kl, kf, hown, hb0⟩ := hrel
    have q0 : (0 : Int) < (i : Int) := by omega
    have q9 : (i : Int) ≤ 61000 := by omega
    by_cases hlt' : i < n
    · have q1 : (i : Int) < (n : Int) := by omega
      have q2 : (0 : Int) ≤ (i : Int) := by omega
      have q3 : (0 : Int) < (n : Int) := by omega
      have q5 : 0 < n := by omega
      obtain ⟨x, hx⟩ : ∃ x, x = linA L.p L.block l k := ⟨_, rfl⟩
      obtain ⟨y, hy⟩ : ∃ y, y = l.getD (i - 1) 0 := ⟨_, rfl⟩
      obtain ⟨z, hz⟩ : ∃ z, z = (x + negP L.p y) % L.p := ⟨_, rfl⟩
      obtain ⟨t, ht⟩ : ∃ t, t = i + L.block := ⟨_, rfl⟩
      have e1 : (i : Int) + (L.block : Int) = (t : Int) := by omega
      have e2 : IntKind.i64.wrap (t : Int) = (t : Int) := wr_i64 _ (by omega) (by omega)
      have HST := Lib.hid (show (U64 (x :: l)).set 0 (.int .u64 (z : Int)) = U64 (linA L.p L.block l (k + 1) :: l) by
        rw [hz, hx, hy, HK.out.1]; rfl)
      have HT : Hid (t = (k + 1 + 1) * L.block ∧ (k + 1) * L.block ≤ l.length) := by
        have h := HK.out
        have h2 := HNN.out
        have h3 : (k + 1 + 1) * L.block = (k + 1) * L.block + L.block := Nat.succ_mul _ _
        exact ⟨by omega, by omega⟩
      have ht3 : t ≤ 61000 := by have := HNN.out; omega
      have ht4 : 1 ≤ t := by omega
      have HC := Lib.hid (fun w => by have := HS.out x y w; rw [← hz] at this; exact this)
      rw [← hx] at hown
      have c0 : wr.cell? ⟨g, 0, none⟩ = some (.int .u64 (x : Int)) := by rw [hown.cellAt 0 (by omega)]; rfl
      have ci : wr.cell? ⟨g, i, none⟩ = some (.int .u64 (y : Int)) := by
        rw [hown.cellAt i (by omega), at_U64 (by simp; have := HNN.out; omega)]
        have : (x :: l)[i]'(by simp; have := HNN.out; omega) = y := by
          rw [hy, List.getElem_cons, dif_neg (by omega), List.getD_eq_getElem?_getD, List.getElem?_eq_getElem (show i - 1 < l.length by have := HNN.out; omega)]
          rfl
        rw [this]
      clear hx hy hz ht HK
      have cf := kf.cell
      have lf := kf.lt
      have lg : g < wr.heap.size := World.block_lt_of_cell? _ _ c0
      go_upto_region 6 with fail
      refine wpGO_begin (Later) (later_moves) [11] [11] [0, 1, 2, 3, 4, 5, 6, 7, 8, 9, 10, 11] (by kernel_rfl) (by kernel_rfl) ?_
      refine wpGO_start (later_moves) ?_
      intro Wc hacc
      repeat (first | (refine wpGO_skip (later_moves) rfl rfl rfl rfl (fun _ _ _ h => h) ?_ ; simp only [Act.put, List.setIfInBounds_toArray, List.set_cons_zero, List.set_cons_succ]) | (refine wpGO_light (v := ?_) (later_moves) rfl rfl rfl rfl (fun _ _ _ h => h) ?_ ?_ ; rotate_left ; (· (intro w' hR ; (first | have hcells := later_cellsD ((later_moves).trans _ _ _ hacc hR) | skip) ; go_simp ; try with_reducible rfl)) ; simp only [Act.put, List.setIfInBounds_toArray, List.set_cons_zero, List.set_cons_succ]) | (refine wpGO_free (v := ?_) rfl rfl rfl rfl (fun _ _ _ h => h) ?_ ?_ ; rotate_left ; (· (intro w' ; go_simp ; try with_reducible rfl)) ; simp only [Act.put, List.setIfInBounds_toArray, List.set_cons_zero, List.set_cons_succ]))
      refine wpGO_call (later_moves) rfl rfl rfl rfl (fun _ _ _ h => h) (fun _ => by go_simp <;> rfl) (fun w' hR => HC.out _) ?_
      simp only [Act.put, List.setIfInBounds_toArray, List.set_cons_zero, List.set_cons_succ]
      repeat (first | (refine wpGO_skip (later_moves) rfl rfl rfl rfl (fun _ _ _ h => h) ?_ ; simp only [Act.put, List.setIfInBounds_toArray, List.set_cons_zero, List.set_cons_succ]) | (refine wpGO_light (v := ?_) (later_moves) rfl rfl rfl rfl (fun _ _ _ h => h) ?_ ?_ ; rotate_left ; (· (intro w' hR ; (first | have hcells := later_cellsD ((later_moves).trans _ _ _ hacc hR) | skip) ; go_simp ; try with_reducible rfl)) ; simp only [Act.put, List.setIfInBounds_toArray, List.set_cons_zero, List.set_cons_succ]) | (refine wpGO_free (v := ?_) rfl rfl rfl rfl (fun _ _ _ h => h) ?_ ?_ ; rotate_left ; (· (intro w' ; go_simp ; try with_reducible rfl)) ; simp only [Act.put, List.setIfInBounds_toArray, List.set_cons_zero, List.set_cons_succ]))
      refine wpGO_heavy rfl rfl rfl rfl ?_
      intro wh hRh
      replace hacc := (later_moves).trans _ _ _ hacc hRh
      have hxd := below_chain (Below.refl wr.heap.size wr).drew hacc
      replace kl := kl.below hxd kl.lt
      replace kf := kf.below hxd kf.lt
      replace hown := own_below hown hxd (Nat.le_refl _)
      replace hb0 := below_chain hb0 hxd
      clear hxd hacc hRh cf lf lg c0 ci
      have c2 : wh.cell? ⟨g, 0, none⟩ = some (.int .u64 (x : Int)) := by rw [hown.cellAt 0 (by omega)]; rfl
      have f2 := hown.frozenAt
      go_simp
      refine ⟨fun h => Bool.noConfusion h, ?_⟩
      obtain ⟨hown2, hg⟩ := hown.stored 0 (.int .u64 (z : Int))
      rw [HST.out] at hown2
      replace kl := kl.grown hg (fun e => by have := Option.some.inj e; first | omega | (exact absurd this (by assumption)) | (exact absurd this.symm (by assumption)))
      replace kf := kf.grown hg (fun e => by have := Option.some.inj e; first | omega | (exact absurd this (by assumption)) | (exact absurd this.symm (by assumption)))
      replace hb0 := hb0.trans (below_of_only hg hb0.size (by omega))
      clear hg f2 c2 hown
      generalize wh.setCell _ _ = we at kl kf hown2 hb0 ⊢
      refine wpGO_doneP rfl ?_
      have cl := kl.cell
      go_wp2_with fail
      go_roundw
      case rel => exact ⟨k + 1, t, by go_num, HT.out, ht3, ht4, kl, kf, hown2, hb0⟩
      case measure => simp [intOf]; omega
    · have q1 : ¬ ((i : Int) < (n : Int)) := by omega
      have HE := Lib.hid (show linA L.p L.block l k = linA L.p L.block l (l.length / L.block) by
        have h := HK.out
        have h2 := HNN.out
        have : l.length / L.block = k := by
          rw [Nat.div_eq_iff (by omega)]
          have h3 : (k + 1) * L.block = k * L.block + L.block := Nat.succ_mul _ _
          omega
        rw [this])
      go_wp2
      go_ret
      rw [HE.out] at hown
      exact ⟨_, rfl, by rw [← HNN.out]; exact hown, hb0⟩
end Go.Proofs.YtakjnmojigechaaGreat
