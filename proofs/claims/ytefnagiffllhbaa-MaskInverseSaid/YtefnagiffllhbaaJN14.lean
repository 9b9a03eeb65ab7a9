/-
  Words for mask.Columns: cells of any values that are made whole; sizes.
-/
import Derived.Test.YtefnagiffllhbaaJN5
import Derived.Test.YtefnagiffllhbaaJN13
import Derived.Test.YtefnagiffllhbaaJN9
import Derived.Test.YtefnagiffllhbaaJN10

/- RFs -/
namespace Go.Proofs.Ytefnagiffllhbaa
open Go.RowKit

/-- The elements that are drawn from a seed. -/
def vecP (p s : Nat) (r : List Nat) (m : Nat) : List Nat := (List.range m).map (drawP p s r)
def rowsP (L : LayR) (s n : Nat) : List (List Nat) := (List.range n).map fun k => vecP L.p s [0, k] L.queries
theorem vecP_lt (p s : Nat) (r : List Nat) (m : Nat) (hp : 0 < p) (hp2 : p < 18446744073709551616) : ∀ x ∈ vecP p s r m, x < 18446744073709551616 := fun x hx => by
  obtain ⟨k, _, rfl⟩ := List.mem_map.1 hx
  exact Nat.lt_trans (Nat.mod_lt _ hp) hp2
theorem rowsP_next (L : LayR) (s k : Nat) : rowsP L s k ++ [vecP L.p s [0, k] L.queries] = rowsP L s (k + 1) := by simp [rowsP, List.range_succ]
theorem info_ww : (Try.prog.info? 28).map (fun i => (i.zero, i.size, i.bytes)) = some (some (.slice none 0 0), 1, 24) := by kernel_rfl
theorem el_ww : Elem Try.prog 37 28 1 24 (.slice none 0 0) := by
  obtain ⟨i0, hi, hz0, hz1, hz2⟩ := info_parts info_ww
  exact ⟨Try.underlying37, ⟨i0, hi, hz0, hz1, hz2⟩, rfl, by omega⟩
/-- ref25.squeeze at a list that lies in a block of its own. -/
theorem rsqx_any (p s : Nat) (r : List Nat) (m g : Nat) (w : World) (hp : 0 < p) (hp2 : p < 18446744073709551616) (kg : Blk w g 22 (U64 (s % bigQ :: r)).toArray) (hr : ∀ x ∈ r, x < 18446744073709551616) (hlen : r.length ≤ 1000) (hm : m ≤ 65536) :
    Calls Try.prog 31 #[.int .u64 p, .int .i64 (m : Int), .slice (some ⟨g, 0, none⟩) (r.length + 1) (r.length + 1)] w fun e w' => ∃ v, e = .returned v ∧ w'.ownsRow w.heap.size 22 1 v m (U64 (vecP p s r m)) ∧ Below w.heap.size w w' := by
  have := rsq25_any p (some ⟨g, 0, none⟩) (s % bigQ :: r).length (s % bigQ :: r).length m (s % bigQ :: r) w hp hp2 (lw_lit kg (fun z hz => by
    rcases List.mem_cons.1 hz with rfl | h
    · exact Nat.lt_trans (Nat.mod_lt _ (by decide)) (show bigQ < 18446744073709551616 by decide)
    · exact hr z h) (by simp [maxLen]; omega)) (by simp) (by simp; omega) hm
  exact this

theorem set5_blk {w : World} {g : Nat} {t : TypeId} {y0 y1 y2 y3 y4 : Value} (k : Blk w g t #[y0, y1, y2, y3, y4]) (x0 x1 x2 x3 x4 : Value) : Blk (((((w.setCell ⟨g, 0, none⟩ x0).setCell ⟨g, 1, none⟩ x1).setCell ⟨g, 2, none⟩ x2).setCell ⟨g, 3, none⟩ x3).setCell ⟨g, 4, none⟩ x4) g t #[x0, x1, x2, x3, x4] := by
  have h := (((((k.set_ 0 x0).set_ 1 x1).set_ 2 x2).set_ 3 x3).set_ 4 x4)
  simpa using h
theorem set5_grown {w : World} {g : Nat} (x0 x1 x2 x3 x4 : Value) : w.grownBy (((((w.setCell ⟨g, 0, none⟩ x0).setCell ⟨g, 1, none⟩ x1).setCell ⟨g, 2, none⟩ x2).setCell ⟨g, 3, none⟩ x3).setCell ⟨g, 4, none⟩ x4) (some g) := by
  iterate 5 refine grown_setCell' ?_ (.inl rfl) _
  exact grown_refl' w _

set_option maxRecDepth 100000 in
set_option maxHeartbeats 2000000 in
theorem rFromSeed_any (L : LayR) (s : Nat) (w : World) (hL : LayOk L) (hs : s < 18446744073709551616) :
    Calls Try.prog 11 #[.agg (layCs L), .int .u64 s] w fun e w' => ∃ v0 v1 v2 v3 v4, e = .returned (.agg #[v0, v1, v2, v3, v4]) ∧ RRows w' [v0] (rowsP L s (L.a + L.b + L.b + L.b)) ∧ RWd w' [v1] (vecP L.p s [1] L.k) ∧ RWd w' [v2] (vecP L.p s [2] (L.k + L.block - 2)) ∧ RWd w' [v3] (vecP L.p s [3] (L.block + 2 * L.queries - 1)) ∧ RWd w' [v4] (vecP bigQ s [4] L.n) ∧ Below w.heap.size w w' := by
  have hpp := okP_lt hL.p
  have HT := Lib.hid (fun w => rTotal_any L.p L.block L.queries L.k L.n L.secret L.rows L.a L.b L.b L.b w hL.a hL.b hL.b hL.b)
  have HS := Lib.hid (fun r m g w kg hr hlen hm => rsqx_any L.p s r m g w (by omega) hpp.2 kg hr hlen hm)
  have HS4 := Lib.hid (fun r m g w kg hr hlen hm => rsqx_any bigQ s r m g w (by decide) (by decide) kg hr hlen hm)
  have hT4 : L.a + L.b + L.b + L.b ≤ 400000 := by have := hL.a; have := hL.b; omega
  have hq2 := hL.q2
  generalize L.a + L.b + L.b + L.b = T at *
  obtain ⟨x, hx⟩ : ∃ x, x = s % bigQ := ⟨_, rfl⟩
  have e1 : (s : Int) % 18446744069414584321 = (x : Int) := by rw [hx]; unfold bigQ; omega
  have e2 : (s : Int).tmod 18446744069414584321 = (x : Int) := by rw [Int.tmod_eq_emod_of_nonneg (by omega)]; exact e1
  rw [← hx] at HS HS4
  clear hx
  unfold layCs at *
  go_enter Try.func11, Try.ntmps11
  go_upto_region 3 with fail
  obtain ⟨kl, kz, kc, hb0, hsz⟩ := boxes3 w 33 39 39 #[.int .u64 (L.p : Int), .int .i64 (L.block : Int), .int .i64 (L.queries : Int), .int .i64 (L.k : Int), .int .i64 (L.n : Int), .int .i64 (L.secret : Int), .int .i64 (L.rows : Int), .int .i64 (L.a : Int), .int .i64 (L.b : Int), .int .i64 (L.b : Int), .int .i64 (L.b : Int)] #[.slice none 0 0, .slice none 0 0, .slice none 0 0, .slice none 0 0, .slice none 0 0] #[.slice none 0 0, .slice none 0 0, .slice none 0 0, .slice none 0 0, .slice none 0 0]
  generalize ((w.alloc _).alloc _).alloc _ = w3 at kl kz kc hb0 hsz ⊢
  obtain ⟨N, hN⟩ : ∃ N, N = w3.heap.size := ⟨_, rfl⟩
  rw [← hN] at hsz
  have hNw : N ≤ w3.heap.size := by omega
  have hN2 : w.heap.size + 2 < N := by omega
  clear hN hsz
  go_wp2_with fail
  go_loopw [7] (fun y wr => ∃ (i : Nat) (v : Value) (cs : List Value), i ≤ T ∧ y = .int .i64 (i : Int) ∧ Blk wr w.heap.size 33 #[.int .u64 (L.p : Int), .int .i64 (L.block : Int), .int .i64 (L.queries : Int), .int .i64 (L.k : Int), .int .i64 (L.n : Int), .int .i64 (L.secret : Int), .int .i64 (L.rows : Int), .int .i64 (L.a : Int), .int .i64 (L.b : Int), .int .i64 (L.b : Int), .int .i64 (L.b : Int)] ∧ Blk wr (w.heap.size + 1) 39 #[.slice none 0 0, .slice none 0 0, .slice none 0 0, .slice none 0 0, .slice none 0 0] ∧ Blk wr (w.heap.size + 1 + 1) 39 #[v, .slice none 0 0, .slice none 0 0, .slice none 0 0, .slice none 0 0] ∧ wr.ownsRow N 28 1 v i cs ∧ GRows N wr v cs (rowsP L s i) ∧ Below w.heap.size w wr ∧ N ≤ wr.heap.size) (fun y _ => T - (intOf y).toNat)
  case atStart => exact ⟨0, .slice none 0 0, [], Nat.zero_le _, rfl, kl, kz, kc, ⟨rfl, .inl ⟨rfl, rfl⟩⟩, grows_nil _ _ _, hb0, hNw⟩
  case round =>
    clear kl kz kc hb0 hNw
    obtain ⟨i, v, cs, hi, rfl, kl, kz, kc, hown, hgr, hb0, hNw⟩ := hrel
    have cl := kl.cell
    have ll := kl.lt
    by_cases hlt : i < T
    · have g1 : (0 : Int) ≤ (i : Int) := by omega
      have g2 : (i : Int) < (T : Int) := by omega
      have ew : IntKind.u64.wrap (i : Int) = (i : Int) := by rw [IntKind.wrap_u64]; omega
      have HR := Lib.hid (rowsP_next L s i)
      go_wp2_with fail
      refine (HT.out _).mono ?_
      rintro e w4 ⟨rfl, hb4⟩
      replace kl := kl.below hb4 kl.lt
      replace kz := kz.below hb4 kz.lt
      replace kc := kc.below hb4 kc.lt
      replace hown := own_below hown hb4 (Nat.le_refl _)
      replace hgr := grows_below hgr hb4
      have hN4 : N ≤ w4.heap.size := by have := hb4.size; omega
      replace hb0 := below_chain hb0 hb4
      clear cl ll hb4 hNw
      have cl := kl.cell
      have cc := kc.cell
      have x1 : w.heap.size < N := by omega
      have x2 : w.heap.size + 1 + 1 < N := by omega
      have x3 : w.heap.size ≠ N := by omega
      have x4 : w.heap.size + 1 + 1 ≠ N := by omega
      go_upto_region 6 with fail
      refine wpV_begin (FromX N N) [9, 10, 11, 12, 14] [14] [0, 1, 2, 3, 4, 5, 6, 7, 8, 9, 10, 11, 12, 13, 14] (by kernel_rfl) (by kernel_rfl) ?_
      refine wpV_startK (fromX_moves N N) ?_
      intro Wc HWc hacc
      have hbW : Below w4.heap.size w4 Wc := by rw [HWc.out]; exact (Below.refl _ _).drew
      replace kl := kl.below hbW kl.lt
      replace kz := kz.below hbW kz.lt
      replace kc := kc.below hbW kc.lt
      replace hown := own_below hown hbW (Nat.le_refl _)
      replace hgr := grows_below hgr hbW
      have hNc : N ≤ Wc.heap.size := by have := hbW.size; omega
      replace hb0 := below_chain hb0 hbW
      clear HWc hbW
      repeat (first | (refine wpV_skip (fromX_moves N N) rfl rfl rfl (fun _ _ _ h => h) ?_ ; simp only [Act.put, List.setIfInBounds_toArray, List.set_cons_zero, List.set_cons_succ]) | (refine wpV_light (v := ?_) (fromX_moves N N) rfl rfl rfl (fun _ _ _ h => h) ?_ ?_ ; rotate_left ; (· (intro w' hR ; (first | have hcells := fromX_cellsD ((fromX_moves N N).trans _ _ _ hacc (hR rfl)) | skip) ; clear hR ; go_simp ; try with_reducible rfl)) ; simp only [Act.put, List.setIfInBounds_toArray, List.set_cons_zero, List.set_cons_succ]))
      refine wpV_heavy (fromX_moves N N) rfl rfl rfl ?_
      go_simp
      refine ⟨fun _ => fromX_below ((Below.refl _ _).alloc (Nat.le_refl _) _) hNc, ?_⟩
      have hal := (Below.refl Wc.heap.size Wc).alloc (Nat.le_refl _) (.cells #[.int .u64 (x : Int), .int .u64 0, .int .u64 (i : Int)] 22)
      have kA := Blk.new Wc 22 #[.int .u64 (x : Int), .int .u64 0, .int .u64 (i : Int)]
      replace kl := kl.below hal kl.lt
      replace kz := kz.below hal kz.lt
      replace kc := kc.below hal kc.lt
      replace hown := own_below hown hal (Nat.le_refl _)
      replace hgr := grows_below hgr hal
      have hN6 : N ≤ (Wc.alloc (.cells #[.int .u64 (x : Int), .int .u64 0, .int .u64 (i : Int)] 22)).heap.size := by have := hal.size; omega
      replace hb0 := below_chain hb0 hal
      try simp only [Act.put, List.setIfInBounds_toArray, List.set_cons_zero, List.set_cons_succ]
      generalize Wc.alloc _ = w6 at kl kz kc hown hgr hb0 kA hN6 ⊢
      generalize Wc.heap.size = gA at kA ⊢
      clear hal hNc hacc cl cc
      have hacc := (fromX_moves N N).refl w6
      have kA' : Blk w6 gA 22 (U64 (x :: [0, i])).toArray := by simpa [U64] using kA
      have HC := Lib.hid (HS.out [0, i] L.queries gA w6 kA' (by intro y hy; simp at hy; omega) (by simp) (by omega))
      clear kA kA'
      refine wpV_call (fromX_moves N N) rfl rfl rfl (fun _ => by go_simp <;> rfl) ((HC.out).mono ?_)
      rintro e w7 ⟨va, rfl, hva, hb7⟩
      refine ⟨_, rfl, fun _ => fromX_below hb7 hN6, ?_⟩
      replace hacc := (fromX_moves N N).trans _ _ _ hacc (fromX_below hb7 hN6)
      simp only [Act.put, List.setIfInBounds_toArray, List.set_cons_zero, List.set_cons_succ]
      obtain ⟨Av, cv, rfl, -⟩ := own_form hva
      have hvx := hva
      replace kl := kl.below hb7 kl.lt
      replace kz := kz.below hb7 kz.lt
      replace kc := kc.below hb7 kc.lt
      have hlv : ∀ q, v.ownBlock = some q → q < w6.heap.size := fun q e => (hown.lt q e).2
      replace hown := own_below hown hb7 (Nat.le_refl _)
      replace hgr := grows_below hgr hb7
      have hx7 := rwx_own (N := N) (gb := v.ownBlock) hvx (vecP_lt _ _ _ _ (by omega) hpp.2) hN6 hlv
      have hN7 : N ≤ w7.heap.size := by have := hb7.size; omega
      replace hb0 := below_chain hb0 hb7
      clear hva hvx hlv hb7 hN6 hacc HC
      have hacc := (fromX_moves N N).refl w7
      refine wpV_heavy (fromX_moves N N) rfl rfl rfl ?_
      go_simp
      refine ⟨fun _ => fromX_below ((Below.refl _ _).alloc (Nat.le_refl _) _) hN7, ?_⟩
      have hal := (Below.refl w7.heap.size w7).alloc (Nat.le_refl _) (.cells #[.slice Av L.queries cv] 28)
      have hrd := rd_one w7 (.slice Av L.queries cv) 28
      replace kl := kl.below hal kl.lt
      replace kz := kz.below hal kz.lt
      replace kc := kc.below hal kc.lt
      replace hown := own_below hown hal (Nat.le_refl _)
      replace hgr := grows_below hgr hal
      replace hx7 := rwx_keep hx7 hal.size (fun b _ h2 _ => hal.block b h2)
      have hN8 : N ≤ (w7.alloc (.cells #[.slice Av L.queries cv] 28)).heap.size := by have := hal.size; omega
      replace hb0 := below_chain hb0 hal
      try simp only [Act.put, List.setIfInBounds_toArray, List.set_cons_zero, List.set_cons_succ]
      generalize w7.alloc _ = w8 at kl kz kc hown hgr hx7 hb0 hrd hN8 ⊢
      generalize w7.heap.size = g7 at hrd ⊢
      clear hal hN7 hacc
      have hacc := (fromX_moves N N).refl w8
      have cc := kc.cell
      repeat (first | (refine wpV_skip (fromX_moves N N) rfl rfl rfl (fun _ _ _ h => h) ?_ ; simp only [Act.put, List.setIfInBounds_toArray, List.set_cons_zero, List.set_cons_succ]) | (refine wpV_light (v := ?_) (fromX_moves N N) rfl rfl rfl (fun _ _ _ h => h) ?_ ?_ ; rotate_left ; (· (intro w' hR ; (first | have hcells := fromX_cellsD ((fromX_moves N N).trans _ _ _ hacc (hR rfl)) | skip) ; clear hR ; go_simp ; try with_reducible rfl)) ; simp only [Act.put, List.setIfInBounds_toArray, List.set_cons_zero, List.set_cons_succ]))
      refine wpV_heavy (fromX_moves N N) rfl rfl rfl ?_
      refine wp_append_rd _ _ rfl el_ww rfl hown rfl hrd (by intro u hu; simp at hu; subst hu; rfl) (by omega) hN8 ?_
      intro v' wn hown' hgrow hblk
      have hvb : ∀ q, v.ownBlock = some q → N ≤ q := fun q e => (hown.lt q e).1
      refine ⟨fun _ => fromX_row hgrow hN8 hvb, ?_⟩
      have hgn := grows_app hgr hx7 hgrow hblk
      rw [HR.out] at hgn
      replace kl := kl.grown hgrow (fun e => by first | (have := hvb _ e; omega) | (have := hvb _ e.symm; omega))
      replace kz := kz.grown hgrow (fun e => by first | (have := hvb _ e; omega) | (have := hvb _ e.symm; omega))
      replace kc := kc.grown hgrow (fun e => by first | (have := hvb _ e; omega) | (have := hvb _ e.symm; omega))
      replace hb0 := hb0.trans ((lw_grow hown hgrow hN8).mono (by omega))
      have hNn : N ≤ wn.heap.size := by have := hgrow.size; omega
      obtain ⟨Aw, cw, rfl, -⟩ := own_form hown'
      clear hown hgr hx7 hgrow hblk hvb hN8 hrd cc hacc
      have hacc := (fromX_moves N N).refl wn
      have cc := kc.cell
      have fc := kc.frozen
      try simp only [Act.put, List.setIfInBounds_toArray, List.set_cons_zero, List.set_cons_succ]
      repeat (first | (refine wpV_skip (fromX_moves N N) rfl rfl rfl (fun _ _ _ h => h) ?_ ; simp only [Act.put, List.setIfInBounds_toArray, List.set_cons_zero, List.set_cons_succ]) | (refine wpV_light (v := ?_) (fromX_moves N N) rfl rfl rfl (fun _ _ _ h => h) ?_ ?_ ; rotate_left ; (· (intro w' hR ; (first | have hcells := fromX_cellsD ((fromX_moves N N).trans _ _ _ hacc (hR rfl)) | skip) ; clear hR ; go_simp ; try with_reducible rfl)) ; simp only [Act.put, List.setIfInBounds_toArray, List.set_cons_zero, List.set_cons_succ]))
      refine wpV_heavy (fromX_moves N N) rfl rfl rfl ?_
      go_simp
      refine ⟨fun h => Bool.noConfusion h, ?_⟩
      have hsg : wn.grownBy (wn.setCell ⟨w.heap.size + 1 + 1, 0, none⟩ (.slice Aw (i + 1) cw)) (some (w.heap.size + 1 + 1)) := grown_setCell' (p := ⟨w.heap.size + 1 + 1, 0, none⟩) (grown_refl' wn _) (.inl rfl) _
      replace kc := kc.set_ 0 (.slice Aw (i + 1) cw)
      simp at kc
      replace kl := kl.grown hsg (fun e => by have := Option.some.inj e; omega)
      replace kz := kz.grown hsg (fun e => by have := Option.some.inj e; omega)
      have hown2 := own_stay hown' hsg (by omega)
      replace hgn := grows_only hgn hsg (by omega)
      replace hb0 := hb0.trans (below_of_only hsg hb0.size (by omega))
      have hNz := Nat.le_trans hNn hsg.size
      clear hown' hsg cc fc hNn hacc
      generalize wn.setCell _ _ = wz at kl kz kc hown2 hgn hb0 hNz ⊢
      have hacc := (fromX_moves N N).refl wz
      repeat (first | (refine wpV_skip (fromX_moves N N) rfl rfl rfl (fun _ _ _ h => h) ?_ ; simp only [Act.put, List.setIfInBounds_toArray, List.set_cons_zero, List.set_cons_succ]) | (refine wpV_light (v := ?_) (fromX_moves N N) rfl rfl rfl (fun _ _ _ h => h) ?_ ?_ ; rotate_left ; (· (intro w' hR ; (first | have hcells := fromX_cellsD ((fromX_moves N N).trans _ _ _ hacc (hR rfl)) | skip) ; clear hR ; go_simp ; try with_reducible rfl)) ; simp only [Act.put, List.setIfInBounds_toArray, List.set_cons_zero, List.set_cons_succ]))
      refine wpV_done ?_
      go_wp2
      go_roundw
      case rel => exact ⟨i + 1, .slice Aw (i + 1) cw, _, by omega, by go_num, kl, kz, kc, hown2, hgn, hb0, hNz⟩
      case measure => simp [intOf]; omega
    · obtain rfl : i = T := by omega
      clear ll
      have ll := kl.lt
      have g2 : ¬ ((i : Int) < (i : Int)) := by omega
      go_wp2_with fail
      refine (HT.out _).mono ?_
      rintro e w4 ⟨rfl, hb4⟩
      replace kl := kl.below hb4 kl.lt
      replace kz := kz.below hb4 kz.lt
      replace kc := kc.below hb4 kc.lt
      replace hown := own_below hown hb4 (Nat.le_refl _)
      replace hgr := grows_below hgr hb4
      replace hb0 := below_chain hb0 hb4
      replace hNw := Nat.le_trans hNw hb4.size
      clear cl ll hb4
      have q1 := hL.b1
      have q2 := hL.b2
      have q3 := hL.q1
      have q5 := hL.k
      have q6 := hL.n2
      have w1 : IntKind.i64.wrap ((L.k : Int) + (L.block : Int)) = (L.k : Int) + (L.block : Int) := wr_i64 _ (by omega) (by omega)
      obtain ⟨m2, hm2⟩ : ∃ m2, m2 = L.k + L.block - 2 := ⟨_, rfl⟩
      obtain ⟨m3, hm3⟩ : ∃ m3, m3 = L.block + 2 * L.queries - 1 := ⟨_, rfl⟩
      have w2 : IntKind.i64.wrap ((L.k : Int) + (L.block : Int) - 2) = (m2 : Int) := by rw [wr_i64 _ (by omega) (by omega)]; omega
      have w5 : IntKind.i64.wrap (2 * (L.queries : Int)) = 2 * (L.queries : Int) := wr_i64 _ (by omega) (by omega)
      have w6 : IntKind.i64.wrap ((L.block : Int) + 2 * (L.queries : Int)) = (L.block : Int) + 2 * (L.queries : Int) := wr_i64 _ (by omega) (by omega)
      have w7 : IntKind.i64.wrap ((L.block : Int) + 2 * (L.queries : Int) - 1) = (m3 : Int) := by rw [wr_i64 _ (by omega) (by omega)]; omega
      have u1 : L.k ≤ 65536 := by omega
      have u2 : m2 ≤ 65536 := by omega
      have u3 : m3 ≤ 65536 := by omega
      have u4 : L.n ≤ 65536 := by omega
      have HM2 := Lib.hid hm2
      have HM3 := Lib.hid hm3
      clear hm2 hm3 q1 q2 q3 q5 q6 hlt hi
      have cl := kl.cell
      go_wp2_with fail
      have hal := (Below.refl w4.heap.size w4).alloc (Nat.le_refl _) (.cells #[.int .u64 (x : Int), .int .u64 1] 22)
      have kA := Blk.new w4 22 #[.int .u64 (x : Int), .int .u64 1]
      replace kl := kl.below hal kl.lt
      replace kz := kz.below hal kz.lt
      replace kc := kc.below hal kc.lt
      replace hgr := grows_below hgr hal
      replace hown := own_below hown hal (Nat.le_refl _)
      replace hb0 := below_chain hb0 hal
      replace hNw := Nat.le_trans hNw hal.size
      clear cl hal
      generalize w4.alloc _ = a1 at kl kz kc hgr hown  hb0 hNw kA ⊢
      generalize w4.heap.size = gA1 at kA ⊢
      have HC := Lib.hid (HS.out [1] L.k gA1 a1 (by simpa [U64] using kA) (by intro y hy; simp at hy; omega) (by simp) u1)
      clear kA
      skip
      refine HC.out.mono ?_
      rintro e b1 ⟨v1, rfl, hv, hb⟩
      have o1 := own_base hv hNw
      replace kl := kl.below hb kl.lt
      replace kz := kz.below hb kz.lt
      replace kc := kc.below hb kc.lt
      replace hgr := grows_below hgr hb
      replace hown := own_below hown hb (Nat.le_refl _)
      replace hb0 := below_chain hb0 hb
      replace hNw := Nat.le_trans hNw hb.size
      clear hv hb HC
      obtain ⟨A1, c1, rfl, -⟩ := own_form o1
      have cc := kc.cell
      have fc := kc.frozen
      go_upto_region 8 with fail
      have hsg : b1.grownBy (b1.setCell ⟨w.heap.size + 1 + 1, 1, none⟩ (.slice A1 L.k c1)) (some (w.heap.size + 1 + 1)) := grown_setCell' (p := ⟨w.heap.size + 1 + 1, 1, none⟩) (grown_refl' b1 _) (.inl rfl) _
      replace kc := kc.set_ 1 (.slice A1 L.k c1)
      simp at kc
      replace kl := kl.grown hsg (fun e => by have := Option.some.inj e; omega)
      replace kz := kz.grown hsg (fun e => by have := Option.some.inj e; omega)
      replace hgr := grows_only hgr hsg (by omega)
      replace hown := own_stay hown hsg (by omega)
      replace o1 := own_stay o1 hsg (by omega)
      replace hb0 := hb0.trans (below_of_only hsg hb0.size (by omega))
      replace hNw := Nat.le_trans hNw hsg.size
      clear hsg cc fc
      generalize b1.setCell _ _ = d1 at kl kz kc hgr hown o1 hb0 hNw ⊢
      have cl := kl.cell
      go_wp2_with fail
      have hal := (Below.refl d1.heap.size d1).alloc (Nat.le_refl _) (.cells #[.int .u64 (x : Int), .int .u64 2] 22)
      have kA := Blk.new d1 22 #[.int .u64 (x : Int), .int .u64 2]
      replace kl := kl.below hal kl.lt
      replace kz := kz.below hal kz.lt
      replace kc := kc.below hal kc.lt
      replace hgr := grows_below hgr hal
      replace hown := own_below hown hal (Nat.le_refl _)
      replace o1 := own_below o1 hal (Nat.le_refl _)
      replace hb0 := below_chain hb0 hal
      replace hNw := Nat.le_trans hNw hal.size
      clear cl hal
      generalize d1.alloc _ = a2 at kl kz kc hgr hown o1 hb0 hNw kA ⊢
      generalize d1.heap.size = gA2 at kA ⊢
      have HC := Lib.hid (HS.out [2] m2 gA2 a2 (by simpa [U64] using kA) (by intro y hy; simp at hy; omega) (by simp) u2)
      clear kA
      skip
      refine HC.out.mono ?_
      rintro e b2 ⟨v2, rfl, hv, hb⟩
      have o2 := own_base hv hNw
      replace kl := kl.below hb kl.lt
      replace kz := kz.below hb kz.lt
      replace kc := kc.below hb kc.lt
      replace hgr := grows_below hgr hb
      replace hown := own_below hown hb (Nat.le_refl _)
      replace o1 := own_below o1 hb (Nat.le_refl _)
      replace hb0 := below_chain hb0 hb
      replace hNw := Nat.le_trans hNw hb.size
      clear hv hb HC
      obtain ⟨A2, c2, rfl, -⟩ := own_form o2
      have cc := kc.cell
      have fc := kc.frozen
      go_upto_region 9 with fail
      have hsg : b2.grownBy (b2.setCell ⟨w.heap.size + 1 + 1, 2, none⟩ (.slice A2 m2 c2)) (some (w.heap.size + 1 + 1)) := grown_setCell' (p := ⟨w.heap.size + 1 + 1, 2, none⟩) (grown_refl' b2 _) (.inl rfl) _
      replace kc := kc.set_ 2 (.slice A2 m2 c2)
      simp at kc
      replace kl := kl.grown hsg (fun e => by have := Option.some.inj e; omega)
      replace kz := kz.grown hsg (fun e => by have := Option.some.inj e; omega)
      replace hgr := grows_only hgr hsg (by omega)
      replace hown := own_stay hown hsg (by omega)
      replace o1 := own_stay o1 hsg (by omega)
      replace o2 := own_stay o2 hsg (by omega)
      replace hb0 := hb0.trans (below_of_only hsg hb0.size (by omega))
      replace hNw := Nat.le_trans hNw hsg.size
      clear hsg cc fc
      generalize b2.setCell _ _ = d2 at kl kz kc hgr hown o1 o2 hb0 hNw ⊢
      have cl := kl.cell
      go_wp2_with fail
      have hal := (Below.refl d2.heap.size d2).alloc (Nat.le_refl _) (.cells #[.int .u64 (x : Int), .int .u64 3] 22)
      have kA := Blk.new d2 22 #[.int .u64 (x : Int), .int .u64 3]
      replace kl := kl.below hal kl.lt
      replace kz := kz.below hal kz.lt
      replace kc := kc.below hal kc.lt
      replace hgr := grows_below hgr hal
      replace hown := own_below hown hal (Nat.le_refl _)
      replace o1 := own_below o1 hal (Nat.le_refl _)
      replace o2 := own_below o2 hal (Nat.le_refl _)
      replace hb0 := below_chain hb0 hal
      replace hNw := Nat.le_trans hNw hal.size
      clear cl hal
      generalize d2.alloc _ = a3 at kl kz kc hgr hown o1 o2 hb0 hNw kA ⊢
      generalize d2.heap.size = gA3 at kA ⊢
      have HC := Lib.hid (HS.out [3] m3 gA3 a3 (by simpa [U64] using kA) (by intro y hy; simp at hy; omega) (by simp) u3)
      clear kA
      skip
      refine HC.out.mono ?_
      rintro e b3 ⟨v3, rfl, hv, hb⟩
      have o3 := own_base hv hNw
      replace kl := kl.below hb kl.lt
      replace kz := kz.below hb kz.lt
      replace kc := kc.below hb kc.lt
      replace hgr := grows_below hgr hb
      replace hown := own_below hown hb (Nat.le_refl _)
      replace o1 := own_below o1 hb (Nat.le_refl _)
      replace o2 := own_below o2 hb (Nat.le_refl _)
      replace hb0 := below_chain hb0 hb
      replace hNw := Nat.le_trans hNw hb.size
      clear hv hb HC
      obtain ⟨A3, c3, rfl, -⟩ := own_form o3
      have cc := kc.cell
      have fc := kc.frozen
      go_upto_region 10 with fail
      have hsg : b3.grownBy (b3.setCell ⟨w.heap.size + 1 + 1, 3, none⟩ (.slice A3 m3 c3)) (some (w.heap.size + 1 + 1)) := grown_setCell' (p := ⟨w.heap.size + 1 + 1, 3, none⟩) (grown_refl' b3 _) (.inl rfl) _
      replace kc := kc.set_ 3 (.slice A3 m3 c3)
      simp at kc
      replace kl := kl.grown hsg (fun e => by have := Option.some.inj e; omega)
      replace kz := kz.grown hsg (fun e => by have := Option.some.inj e; omega)
      replace hgr := grows_only hgr hsg (by omega)
      replace hown := own_stay hown hsg (by omega)
      replace o1 := own_stay o1 hsg (by omega)
      replace o2 := own_stay o2 hsg (by omega)
      replace o3 := own_stay o3 hsg (by omega)
      replace hb0 := hb0.trans (below_of_only hsg hb0.size (by omega))
      replace hNw := Nat.le_trans hNw hsg.size
      clear hsg cc fc
      generalize b3.setCell _ _ = d3 at kl kz kc hgr hown o1 o2 o3 hb0 hNw ⊢
      have cl := kl.cell
      go_wp2_with fail
      have hal := (Below.refl d3.heap.size d3).alloc (Nat.le_refl _) (.cells #[.int .u64 (x : Int), .int .u64 4] 22)
      have kA := Blk.new d3 22 #[.int .u64 (x : Int), .int .u64 4]
      replace kl := kl.below hal kl.lt
      replace kz := kz.below hal kz.lt
      replace kc := kc.below hal kc.lt
      replace hgr := grows_below hgr hal
      replace hown := own_below hown hal (Nat.le_refl _)
      replace o1 := own_below o1 hal (Nat.le_refl _)
      replace o2 := own_below o2 hal (Nat.le_refl _)
      replace o3 := own_below o3 hal (Nat.le_refl _)
      replace hb0 := below_chain hb0 hal
      replace hNw := Nat.le_trans hNw hal.size
      clear cl hal
      generalize d3.alloc _ = a4 at kl kz kc hgr hown o1 o2 o3 hb0 hNw kA ⊢
      generalize d3.heap.size = gA4 at kA ⊢
      have HC := Lib.hid (HS4.out [4] L.n gA4 a4 (by simpa [U64] using kA) (by intro y hy; simp at hy; omega) (by simp) u4)
      clear kA
      unfold bigQ at HC
      refine HC.out.mono ?_
      rintro e b4 ⟨v4, rfl, hv, hb⟩
      have o4 := own_base hv hNw
      replace kl := kl.below hb kl.lt
      replace kz := kz.below hb kz.lt
      replace kc := kc.below hb kc.lt
      replace hgr := grows_below hgr hb
      replace hown := own_below hown hb (Nat.le_refl _)
      replace o1 := own_below o1 hb (Nat.le_refl _)
      replace o2 := own_below o2 hb (Nat.le_refl _)
      replace o3 := own_below o3 hb (Nat.le_refl _)
      replace hb0 := below_chain hb0 hb
      replace hNw := Nat.le_trans hNw hb.size
      clear hv hb HC
      obtain ⟨A4, c4, rfl, -⟩ := own_form o4
      have cc := kc.cell
      have fc := kc.frozen
      go_upto_region 11 with fail
      have hsg : b4.grownBy (b4.setCell ⟨w.heap.size + 1 + 1, 4, none⟩ (.slice A4 L.n c4)) (some (w.heap.size + 1 + 1)) := grown_setCell' (p := ⟨w.heap.size + 1 + 1, 4, none⟩) (grown_refl' b4 _) (.inl rfl) _
      replace kc := kc.set_ 4 (.slice A4 L.n c4)
      simp at kc
      replace kl := kl.grown hsg (fun e => by have := Option.some.inj e; omega)
      replace kz := kz.grown hsg (fun e => by have := Option.some.inj e; omega)
      replace hgr := grows_only hgr hsg (by omega)
      replace hown := own_stay hown hsg (by omega)
      replace o1 := own_stay o1 hsg (by omega)
      replace o2 := own_stay o2 hsg (by omega)
      replace o3 := own_stay o3 hsg (by omega)
      replace o4 := own_stay o4 hsg (by omega)
      replace hb0 := hb0.trans (below_of_only hsg hb0.size (by omega))
      replace hNw := Nat.le_trans hNw hsg.size
      clear hsg cc fc
      generalize b4.setCell _ _ = d4 at kl kz kc hgr hown o1 o2 o3 o4 hb0 hNw ⊢
      obtain ⟨Av, cv, rfl, -⟩ := own_form hown
      have cc := kc.cell
      have fc := kc.frozen
      have zc := kz.cell
      have zf := kz.frozen
      go_wp2_with fail
      have hsg := set5_grown (w := d4) (g := w.heap.size + 1) (.slice Av i cv) (.slice A1 L.k c1) (.slice A2 m2 c2) (.slice A3 m3 c3) (.slice A4 L.n c4)
      replace kz := set5_blk kz (.slice Av i cv) (.slice A1 L.k c1) (.slice A2 m2 c2) (.slice A3 m3 c3) (.slice A4 L.n c4)
      replace hgr := grows_only hgr hsg (by omega)
      replace hown := own_stay hown hsg (by omega)
      replace o1 := own_stay o1 hsg (by omega)
      replace o2 := own_stay o2 hsg (by omega)
      replace o3 := own_stay o3 hsg (by omega)
      replace o4 := own_stay o4 hsg (by omega)
      replace hb0 := hb0.trans (below_of_only hsg hb0.size (by omega))
      clear kl kc cc fc zc zf hsg hNw
      generalize ((((d4.setCell _ _).setCell _ _).setCell _ _).setCell _ _).setCell _ _ = d5 at kz hgr hown o1 o2 o3 o4 hb0 ⊢
      have zc := kz.cell
      refine bodyPost_ret (v := .agg #[.slice Av i cv, .slice A1 L.k c1, .slice A2 m2 c2, .slice A3 m3 c3, .slice A4 L.n c4]) (by simp [results, Try.results11, go_sem, zc]) rfl ?_
      obtain rfl := HM2.out
      obtain rfl := HM3.out
      have hp0 : 0 < L.p := by omega
      exact ⟨_, _, _, _, _, rfl, grows_done hgr hown, lw_own o1 (vecP_lt _ _ _ _ hp0 hpp.2), lw_own o2 (vecP_lt _ _ _ _ hp0 hpp.2), lw_own o3 (vecP_lt _ _ _ _ hp0 hpp.2), lw_own o4 (vecP_lt _ _ _ _ (by decide) (by decide)), hb0⟩
end Go.Proofs.Ytefnagiffllhbaa

/- ColA -/
namespace Go.Proofs.Ytefnagiffllhbaa
open Go.RowKit

def fillV (n : Nat) (f : Nat → Value) : Array Value := ((List.range n).map f).toArray
theorem fillV_get {n k : Nat} (f : Nat → Value) (h : k < n) : (fillV n f)[k]? = some (f k) := by simp [fillV, h]
theorem fillV_same {n : Nat} {f g : Nat → Value} (h : ∀ i, i < n → f i = g i) : fillV n f = fillV n g := by
  unfold fillV
  congr 1
  exact List.map_congr_left fun i hi => h i (List.mem_range.1 hi)
theorem fillV_set {n k : Nat} (f : Nat → Value) (v : Value) : (fillV n f).setIfInBounds k v = fillV n (fun i => if i = k then v else f i) := by
  apply Array.ext
  · simp [fillV]
  · intro i h1 h2
    simp [fillV] at h1 h2
    rw [Array.getElem_setIfInBounds (by simpa [fillV] using h1)]
    simp only [fillV]
    split
    · subst_vars; simp
    · rename_i hne
      simp [show ¬ i = k from fun e => hne e.symm]
theorem made_nilV (n : Nat) : madeCells (Value.slice none 0 0).cells (n * 1) = fillV n fun _ => .slice none 0 0 := by
  apply Array.toList_inj.1
  rw [show (Value.slice none 0 0).cells = #[.slice none 0 0] from rfl, toList_madeCells_one]
  exact List.ext_getElem (by simp [fillV]) fun i h1 h2 => by simp [fillV]
theorem mk_rows (n : Nat) (hn : n ≤ 1000000) (w : World) :
    (Instr.makeSlice 37 (.int .i64 (n : Int)) (.int .i64 (n : Int))).run Try.prog w = .ok (.slice (some ⟨w.heap.size, 0, none⟩) n n) (w.alloc (.cells (fillV n fun _ => .slice none 0 0) 28)) := by
  have := mk_n (P := Try.prog) el_ww n (by omega) (by omega) w
  rw [made_nilV] at this
  exact this
theorem vanP_lt {p b : Nat} (hp : 0 < p) (l : List Nat) : ∀ i k, vanP p b l i k < p
  | 0, _ => hp
  | i + 1, k => by
    simp only [vanP, putF]
    split
    · exact Nat.mod_lt _ hp
    · split
      · exact Nat.mod_lt _ hp
      · exact vanP_lt hp l i k
theorem mrowP_lt {L : LayR} (hp : 0 < L.p) (msg masks : List Nat) (k : Nat) : mrowP L msg masks k < L.p := by
  unfold mrowP plusP
  split
  · exact Nat.mod_lt _ hp
  · exact vanP_lt hp _ _ _
theorem linA_lt {p b : Nat} (hp : 0 < p) (l : List Nat) : ∀ k, linA p b l k < p
  | 0 => hp
  | _ + 1 => Nat.mod_lt _ hp
/-- The polynomials of Columns. -/
def polyRow (L : LayR) (m r : List (List Nat)) (k : Nat) : List Nat := (List.range (L.block + (r.getD k []).length)).map (mrowP L (m.getD k []) (r.getD k []))
def polyRows (L : LayR) (m r : List (List Nat)) (n : Nat) : List (List Nat) := (List.range n).map (polyRow L m r)
theorem polyRows_next (L : LayR) (m r : List (List Nat)) (k : Nat) : polyRows L m r k ++ [polyRow L m r k] = polyRows L m r (k + 1) := by simp [polyRows, List.range_succ]
def quadP (L : LayR) (q : List Nat) : List Nat := (List.range (L.block + q.length)).map (vanP L.p L.block q q.length)
def polysP (L : LayR) (m r : List (List Nat)) (c l q : List Nat) : List (List Nat) := polyRows L m r m.length ++ [c, mlinP L l, quadP L q]
/-- The value of column i at row j. -/
def colV (L : LayR) (ps : List (List Nat)) (i j : Nat) : Nat := evaP L.p L.n L.n.log2 (ps.getD j []) (rowOf L.p).1 i
/-- Rows of a list, three more of which come by one append. -/
theorem grows_app3 {N : Nat} {w w' : World} {v v' x y z : Value} {cs : List Value} {l : List (List Nat)} {a b c : List Nat} (h : GRows N w v cs l) (hx : RWx N v.ownBlock w x a) (hy : RWx N v.ownBlock w y b) (hz : RWx N v.ownBlock w z c)
    (hg : w.grownBy w' v.ownBlock) (hv : v'.ownBlock = v.ownBlock ∨ v'.ownBlock = some w.heap.size) : GRows N w' v' (cs ++ [x, y, z]) (l ++ [a, b, c]) := by
  have key : ∀ {z : Value} {m : List Nat}, RWx N v.ownBlock w z m → RWx N v'.ownBlock w' z m := fun {z m} hz u hu => by
    refine hz u fun b h1 h2 h3 => ?_
    refine (hu b h1 (by have := hg.size; omega) ?_).trans (hg.block b h2 (fun e => h3 e))
    rcases hv with e | e
    · rw [e]; exact h3
    · rw [e]; intro e2; have := Option.some.inj e2; omega
  refine ⟨by simp [h.1], fun i h1 h2 => ?_⟩
  by_cases hi : i < cs.length
  · rw [List.getElem_append_left hi, List.getElem_append_left (by have := h.1; omega)]
    exact key (h.2 i hi _)
  · have e0 := h.1
    have h1' : i < cs.length + 3 := by simpa using h1
    rw [List.getElem_append_right (by omega), List.getElem_append_right (by omega)]
    have : i - cs.length = 0 ∨ i - cs.length = 1 ∨ i - cs.length = 2 := by omega
    have e1 : i - l.length = i - cs.length := by omega
    simp only [e1]
    rcases this with e | e | e <;> simp only [e]
    · exact key hx
    · exact key hy
    · exact key hz
theorem rd_three (w : World) (x y z : Value) (t : TypeId) : Rd (w.alloc (.cells #[x, y, z] t)) 1 (some ⟨w.heap.size, 0, none⟩) 3 [x, y, z] := by
  refine ⟨rfl, fun _ => ⟨_, rfl, fun j u hj => ?_⟩⟩
  rw [add_none, Nat.zero_add, (Blk.new w t #[x, y, z]).cell]
  simpa using hj
/-- A row that lies in a block of its own, made whole. -/
theorem rwx_fill {N g n : Nat} {gb : Option Nat} {w : World} {t : TypeId} {f : Nat → Nat} (h : Blk w g t (fillC n f)) (hf : ∀ i, i < n → f i < 18446744073709551616) (hn : n ≤ maxLen) (hN : N ≤ g) (hg : some g ≠ gb) : RWx N gb w (.slice (some ⟨g, 0, none⟩) n n) ((List.range n).map f) := by
  rw [fill_U64] at h
  exact rwx_blkn h (by simp) (fun x hx => by
    obtain ⟨i, hi, rfl⟩ := List.mem_map.1 hx
    exact hf i (List.mem_range.1 hi)) hn hN hg
theorem layLenN {L : LayR} (h : LayOk L) : LenOk L.p L.n ∧ L.n = 2 ^ L.n.log2 := by
  obtain ⟨j, hj⟩ := h.n
  refine ⟨⟨by have := h.nk; have := h.k; have := h.b1; omega, by have := h.n2; omega, ⟨j, hj⟩, h.nd⟩, ?_⟩
  rw [hj, Nat.log2_two_pow]
theorem fftP_lt {p : Nat} (hp : 0 < p) : ∀ (j : Nat) (a : Nat → Nat) (w k : Nat), (∀ i, a i < p) → fftP p j a w k < p
  | 0, _, _, k, h => h k
  | j + 1, a, w, k, _ => by
    simp only [fftP]
    split <;> exact Nat.mod_lt _ hp
theorem accP_lt {p n : Nat} (hp : 0 < p) (l : List Nat) (s : Nat) : ∀ i k, accP p n l s i k < p
  | 0, _ => hp
  | i + 1, k => by
    simp only [accP, putF]
    split
    · exact Nat.mod_lt _ hp
    · exact accP_lt hp l s i k
theorem evaP_lt {p : Nat} (hp : 0 < p) (n j : Nat) (l : List Nat) (s k : Nat) : evaP p n j l s k < p := fftP_lt hp _ _ _ _ (accP_lt hp _ _ _)
theorem gen_mod {p : Nat} (h : okP p = true) : (rowOf p).1 % p ≠ 0 := by
  rcases okP_cases h with rfl | rfl | rfl | rfl | rfl | rfl | rfl <;> decide
theorem polysP_len (L : LayR) (m r : List (List Nat)) (c l q : List Nat) : (polysP L m r c l q).length = m.length + 3 := by simp [polysP, polyRows]
theorem polysP_short {L : LayR} {m r : List (List Nat)} {c l q : List Nat} (hb : L.block ≤ 256) (hr : ∀ x ∈ r, x.length ≤ 2000) (h1 : c.length ≤ 2000) (h2 : l.length ≤ 2000) (h3 : q.length ≤ 2000) : ∀ x ∈ polysP L m r c l q, x.length ≤ 8192 := by
  intro x hx
  unfold polysP at hx
  rcases List.mem_append.1 hx with hx | hx
  · obtain ⟨k, -, rfl⟩ := List.mem_map.1 hx
    simp only [polyRow, List.length_map, List.length_range]
    have : (r.getD k []).length ≤ 2000 := by
      rw [List.getD_eq_getElem?_getD]
      cases h : r[k]? with
      | none => simp
      | some y => exact hr y (List.mem_of_getElem? h)
    omega
  · simp at hx
    rcases hx with rfl | rfl | rfl
    · omega
    · simp [mlinP]; omega
    · simp [quadP]; omega
end Go.Proofs.Ytefnagiffllhbaa
