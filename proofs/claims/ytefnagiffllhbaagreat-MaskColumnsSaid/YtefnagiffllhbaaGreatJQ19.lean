/-
  ref25.FromSeed.
-/
import Derived.Test.YtefnagiffllhbaaGreatJQ18
import Derived.Test.YtefnagiffllhbaaGreatJQ10
import Derived.Test.YtefnagiffllhbaaGreatJQ7
import Derived.Test.YtefnagiffllhbaaGreatJQ12

/- MkB -/
namespace Go.Proofs.YtefnagiffllhbaaGreat
open Go.RowKit

/-- Draw k for a mask: of the big prime, then by the layout's. -/
def drawP (p x : Nat) (r : List Nat) (k : Nat) : Nat := drawAt x r k % p

theorem set3_two {w0 w : World} {g B : Nat} {t : TypeId} {y0 y1 y2 : Value} (k : Blk w g t #[y0, y1, y2]) (hb : Below B w0 w) (hB : B ≤ g) (x0 x1 x2 : Value) :
    Blk (((w.setCell ⟨g, 0, none⟩ x0).setCell ⟨g, 1, none⟩ x1).setCell ⟨g, 2, none⟩ x2) g t #[x0, x1, x2] ∧ Below B w0 (((w.setCell ⟨g, 0, none⟩ x0).setCell ⟨g, 1, none⟩ x1).setCell ⟨g, 2, none⟩ x2) :=
  ⟨set3_blk k x0 x1 x2, ((hb.setCell hB x0).setCell hB x1).setCell hB x2⟩
def St.lt (p : Nat) (s : St) : Prop := s.a < p ∧ s.b < p ∧ s.c < p
theorem permP_lt {p : Nat} (hp : 0 < p) (s : St) : (permP p s).lt p := ⟨Nat.mod_lt _ hp, Nat.mod_lt _ hp, Nat.mod_lt _ hp⟩
theorem absP_lt {p : Nat} (hp : 0 < p) : ∀ (l : List Nat) (s : St), s.lt p → (absP p l s).lt p
  | [], _, h => h
  | [_], _, _ => permP_lt hp _
  | _ :: _ :: r, _, _ => absP_lt hp r _ (permP_lt hp _)
theorem perI_lt {p : Nat} (hp : 0 < p) (s : St) (h : s.lt p) : ∀ m, (perI p s m).lt p
  | 0 => h
  | _ + 1 => permP_lt hp _
theorem sqAt_lt (p label : Nat) (l : List Nat) (k : Nat) (hp : 0 < p) : sqAt p (absorbP p label l) k < p := by
  have h := perI_lt hp _ (absP_lt hp l ⟨0, 0, (label * 65536 % p + l.length) % p⟩ ⟨hp, hp, Nat.mod_lt _ hp⟩) (k / 2)
  show St.at_ _ (k % 2) < p
  unfold St.at_
  split
  · exact h.1
  · split
    · exact h.2.1
    · exact h.2.2

set_option maxRecDepth 100000 in
set_option maxHeartbeats 1000000 in
theorem codeSize_any (L : LayR) (w : World) (hL : LayOk L) :
    Calls Tryz.prog 76 #[.agg (layCs L)] w fun e w' => e = .returned (.agg #[.int .i64 (L.k : Int), .int .i64 ((L.k + L.block - 2 : Nat) : Int), .int .i64 ((L.block + 2 * L.queries - 1 : Nat) : Int)]) ∧ Below w.heap.size w w' := by
  have h1 := hL.b1
  have h2 := hL.b2
  have h3 := hL.q1
  have h4 := hL.q2
  have h5 := hL.k
  obtain ⟨x, hx⟩ : ∃ x, x = L.k + L.block - 2 := ⟨_, rfl⟩
  obtain ⟨y, hy⟩ : ∃ y, y = L.block + 2 * L.queries - 1 := ⟨_, rfl⟩
  rw [← hx, ← hy]
  have e1 : IntKind.i64.wrap ((L.k : Int) + (L.block : Int)) = (L.k : Int) + (L.block : Int) := wr_i64 _ (by omega) (by omega)
  have e2 : IntKind.i64.wrap ((L.k : Int) + (L.block : Int) - 2) = (x : Int) := by rw [wr_i64 _ (by omega) (by omega)]; omega
  have e3 : IntKind.i64.wrap (2 * (L.queries : Int)) = 2 * (L.queries : Int) := wr_i64 _ (by omega) (by omega)
  have e4 : IntKind.i64.wrap ((L.block : Int) + 2 * (L.queries : Int)) = (L.block : Int) + 2 * (L.queries : Int) := wr_i64 _ (by omega) (by omega)
  have e5 : IntKind.i64.wrap ((L.block : Int) + 2 * (L.queries : Int) - 1) = (y : Int) := by rw [wr_i64 _ (by omega) (by omega)]; omega
  clear h1 h2 h3 h4 h5 hx hy hL
  unfold layCs at *
  go_enter Tryz.func76, Tryz.ntmps76
  go_wp2_with fail
  exact bodyPost_ret (v := .agg #[.int .i64 (L.k : Int), .int .i64 (x : Int), .int .i64 (y : Int)]) (by simp [results, Tryz.results76, go_sem]) rfl ⟨rfl, ((Below.refl _ w).alloc (Nat.le_refl _) _).alloc (by simp) _⟩

set_option maxRecDepth 100000 in
set_option maxHeartbeats 1000000 in
theorem mSqueeze_any (L : LayR) (x : Nat) (r : List Nat) (m g : Nat) (w : World) (hp : okP L.p = true) (kg : Blk w g 22 (U64 (x :: r)).toArray) (hx : ∀ y ∈ x :: r, y < 18446744073709551616) (hr : r.length ≤ 1000) (hm : m ≤ 65536) :
    Calls Tryz.prog 78 #[.agg (layCs L), .int .i64 (m : Int), .slice (some ⟨g, 0, none⟩) (r.length + 1) (r.length + 1)] w fun e w' => ∃ g', e = .returned (.slice (some ⟨g', 0, none⟩) m m) ∧ w.heap.size ≤ g' ∧ Blk w' g' 22 (fillC m (drawP L.p x r)) ∧ w.grownBy w' (some g) := by
  have HD := Lib.hid (fun w k => pDraws_any x r m g w k hx hr hm)
  have HR := Lib.hid (fun n w => fReduce_any L.p n w hp)
  have lg := kg.lt
  obtain ⟨kl, kf, hba, hsz⟩ := boxes2 w 44 84 (layCs L) #[.int .u64 (L.p : Int)]
  have kg2 := kg.below hba lg
  have HF := Lib.hid (fun k hk => fill_get (n := m) (f := drawAt x r) (k := k) hk)
  have hfp : drawP L.p x r = fun k => drawAt x r k % L.p := rfl
  rw [hfp]
  clear hx hr hfp
  generalize r.length + 1 = n at *
  generalize drawAt x r = fs at *
  generalize (U64 (x :: r)).toArray = us at *
  unfold layCs fv at *
  generalize L.p = p at *
  go_enter Tryz.func78, Tryz.ntmps78
  go_wp2_with fail
  generalize (w.alloc _).alloc _ = w2 at kf kg2 hba hsz ⊢
  clear kl kg
  refine (HD.out _ kg2).mono ?_
  rintro e w3 ⟨g', rfl, hg', kg', hgr⟩
  replace kf := kf.grown hgr (fun e => by have := Option.some.inj e; omega)
  replace hgr : w.grownBy w3 (some g) := grown_step (grown_below (grown_refl' w (some g)) hba (Nat.le_refl _)) hgr (fun _ e => .inl e)
  rw [show fillC m fs = fillC m (fun k => if k < 0 then fs k % p else fs k) from fill_same fun i _ => by rw [if_neg (by omega)]] at kg'
  clear kg2
  go_wp2_with fail
  go_loopw [19] (fun y wr => ∃ i : Nat, i ≤ m ∧ y = .int .i64 (i : Int) ∧ Blk wr (w.heap.size + 1) 84 #[.int .u64 (p : Int)] ∧ Blk wr g' 22 (fillC m fun k => if k < i then fs k % p else fs k) ∧ w.grownBy wr (some g)) (fun y _ => m - (intOf y).toNat)
  case atStart => exact ⟨0, Nat.zero_le _, rfl, kf, kg', hgr⟩
  case round =>
    clear kf kg' hgr
    obtain ⟨i, hi, rfl, kf, kg', hgr⟩ := hrel
    by_cases hlt : i < m
    · have g2 : (i : Int) < (m : Int) := by omega
      have g3 : (0 : Int) ≤ (i : Int) := by omega
      have ci := kg'.cell i
      rw [fill_get _ hlt, if_neg (Nat.lt_irrefl i)] at ci
      have cf := kf.cell
      obtain ⟨fi, hfi⟩ : ∃ fi, fi = fs i := ⟨_, rfl⟩
      obtain ⟨z, hz⟩ : ∃ z, z = fi % p := ⟨_, rfl⟩
      have HZ := Lib.hid (show fs i % p = z by rw [← hfi, hz])
      have HX := Lib.hid (fun w => by have := HR.out fi w; rw [← hz] at this; exact this)
      rw [← hfi] at ci
      clear hfi hz
      go_wp2_with fail
      refine (HX.out _).mono ?_
      rintro e w5 ⟨rfl, hb5⟩
      replace kf := kf.below hb5 kf.lt
      replace kg' := kg'.below hb5 kg'.lt
      have hgr5 : w.grownBy w5 (some g) := grown_below hgr hb5 hgr.size
      clear ci cf hgr hb5
      have fi2 := kg'.frozen i
      have ci2 := kg'.cell i
      rw [fill_get _ hlt] at ci2
      generalize (if i < i then fs i % p else fs i) = old at ci2
      go_wp2_with fail
      have hg : w5.grownBy (w5.setCell ⟨g', i, none⟩ (.int .u64 (z : Int))) (some g') := grown_setCell' (p := ⟨g', i, none⟩) (grown_refl' w5 _) (.inl rfl) _
      replace kf := kf.grown hg (fun e => by have := Option.some.inj e; omega)
      replace kg' := kg'.set_ i (.int .u64 (z : Int))
      have HN : (fillC m fun k => if k < i then fs k % p else fs k).setIfInBounds i (.int .u64 (z : Int)) = fillC m (fun k => if k < i + 1 then fs k % p else fs k) := by
        rw [fill_set]
        refine fill_same fun k _ => ?_
        simp only [putF]
        by_cases h : k = i
        · subst h; rw [if_pos rfl, if_pos (by omega), HZ.out]
        · rw [if_neg h]
          by_cases h2 : k < i
          · rw [if_pos h2, if_pos (by omega)]
          · rw [if_neg h2, if_neg (by omega)]
      rw [HN] at kg'
      have hgr6 := grown_step hgr5 hg (fun b e => by have := Option.some.inj e; subst this; exact .inr (by omega))
      clear hgr5 hg fi2 ci2
      go_roundw
      case rel => exact ⟨i + 1, by omega, by go_num, kf, kg', hgr6⟩
      case measure => simp [intOf]; omega
    · obtain rfl : i = m := by omega
      rw [show fillC i (fun k => if k < i then fs k % p else fs k) = fillC i (fun k => fs k % p) from fill_same fun k hk => by rw [if_pos hk]] at kg'
      go_wp2
      go_ret
      exact ⟨g', rfl, by omega, kg', hgr⟩

set_option maxRecDepth 100000 in
set_option maxHeartbeats 1000000 in
theorem rsq25_any (p : Nat) (A : Option Addr) (n c m : Nat) (l : List Nat) (w : World) (hp : 0 < p) (hp2 : p < 18446744073709551616) (hl : RWd w [.slice A n c] l) (hne : 0 < l.length) (hlen : l.length ≤ 1000000) (hm : m ≤ 65536) :
    Calls Tryz.prog 36 #[.int .u64 p, .int .i64 (m : Int), .slice A n c] w fun e w' => ∃ v, e = .returned v ∧ w'.ownsRow w.heap.size 22 1 v m (U64 ((List.range m).map fun k => sqAt bigQ (absorbP bigQ 22 l) k % p)) ∧ Below w.heap.size w w' := by
  have HS := Lib.hid (rSqueeze_any bigQ 22 A n c m l w okBig hl hne hlen hm)
  have HB := Lib.hid (fun k => Nat.lt_trans (sqAt_lt bigQ 22 l k (by decide)) (show bigQ < 18446744073709551616 by decide))
  clear hl hne hlen
  generalize sqAt bigQ (absorbP bigQ 22 l) = fs at *
  unfold bigQ at HS
  go_enter Tryz.func36, Tryz.ntmps36
  go_wp2_with fail
  refine HS.out.mono ?_
  rintro e w1 ⟨v, rfl, hv, hb0⟩
  obtain ⟨A1, c1, rfl, hc1, hc2, hrd, -⟩ := own_form hv
  have hlw : RWd w1 [.slice A1 m c1] ((List.range m).map fs) := lw_own hv (fun x hx => by
    obtain ⟨k, _, rfl⟩ := List.mem_map.1 hx
    exact HB.out k)
  clear hv hrd
  go_wp2_with fail
  go_loopw [8, 9] (fun v y wr => ∃ i : Nat, i ≤ m ∧ y = .int .i64 (i : Int) ∧ wr.ownsRow w1.heap.size 22 1 v i (U64 ((List.range i).map fun k => fs k % p)) ∧ Below w1.heap.size w1 wr) (fun _ y _ => m - (intOf y).toNat)
  case atStart => exact ⟨0, Nat.zero_le _, rfl, own_empty _ _ (Nat.le_refl _), (Below.refl _ _).alloc (Nat.le_refl _) _⟩
  case round =>
    obtain ⟨i, hi, rfl, hown, hb1⟩ := hrel
    by_cases hlt : i < m
    · have g2 : (i : Int) < (m : Int) := by omega
      have g3 : (0 : Int) ≤ (i : Int) := by omega
      obtain ⟨-, -, -, -, hrd⟩ := lw_at (kept_RWd _ _ _ _ hb1 hlw)
      have hlen : ((List.range m).map fs).length = m := by simp
      have hrd : Rd wr 1 A1 ((List.range m).map fs).length (U64 ((List.range m).map fs)) := by rw [hlen]; exact hrd
      obtain ⟨b, q, rfl, hbl, hc⟩ := lw_get hrd (j := i) (by rw [hlen]; exact hlt)
      have hgi : ((List.range m).map fs).getD i 0 = fs i := by simp [hlt]
      rw [hgi] at hc
      obtain ⟨fi, hfi⟩ : ∃ fi, fi = fs i := ⟨_, rfl⟩
      obtain ⟨z, hz⟩ : ∃ z, z = fi % p := ⟨_, rfl⟩
      have HRS := Lib.hid (show ((List.range i).map fun k => fs k % p) ++ [z] = (List.range (i + 1)).map fun k => fs k % p by rw [hz, hfi]; exact range_snoc (fun k => fs k % p) _)
      rw [← hfi] at hc
      have hp0 : (p : Int) ≠ 0 := by omega
      have hp1 : ((p : Int) == 0) = false := by rw [beq_eq_false_iff_ne]; omega
      have e1 : (fi : Int) % (p : Int) = (z : Int) := by rw [hz]; exact (Int.natCast_emod _ _).symm
      have e2 : (fi : Int).tmod (p : Int) = (z : Int) := by rw [Int.tmod_eq_emod_of_nonneg (by omega)]; exact e1
      clear hfi hz hgi hlen hrd
      have hs1 := hb1.size
      go_wp2_with (at_builtin; refine wpl_append rfl _ _ rfl el_w rfl (hown.alloc _) rfl (rd_one _ _ _) (one_U64 [z]) (by omega) (by simp; omega) ?_)
      intro v' wn hown' hgrow hblk
      have hal := (Below.refl wr.heap.size wr).alloc (Nat.le_refl _) (.cells #[.int .u64 (z : Int)] 22)
      have hB := lw_grow (hown.alloc _) hgrow (by simp; have := hb1.size; omega)
      replace hb1 := (below_on hb1 hal hb1.size).trans hB
      replace hown' : wn.ownsRow w1.heap.size 22 1 v' (i + 1) (U64 ((List.range (i + 1)).map fun k => fs k % p)) := lw_app (a := (List.range i).map fun k => fs k % p) (b := [z]) hown' HRS.out
      clear hown hgrow hblk hal hB hc hbl hs1
      go_wp2
      go_roundw
      case rel => exact ⟨i + 1, by omega, by go_num, hown', hb1⟩
      case measure => simp [intOf]; omega
    · obtain rfl : i = m := by omega
      go_wp2
      go_ret
      exact ⟨_, rfl, own_base hown hb0.size, below_chain hb0 hb1⟩
end Go.Proofs.YtefnagiffllhbaaGreat

/- RFs -/
namespace Go.Proofs.YtefnagiffllhbaaGreat
open Go.RowKit

/-- The elements that are drawn from a seed. -/
def vecP (p s : Nat) (r : List Nat) (m : Nat) : List Nat := (List.range m).map (drawP p s r)
def rowsP (L : LayR) (s n : Nat) : List (List Nat) := (List.range n).map fun k => vecP L.p s [0, k] L.queries
theorem vecP_lt (p s : Nat) (r : List Nat) (m : Nat) (hp : 0 < p) (hp2 : p < 18446744073709551616) : ∀ x ∈ vecP p s r m, x < 18446744073709551616 := fun x hx => by
  obtain ⟨k, _, rfl⟩ := List.mem_map.1 hx
  exact Nat.lt_trans (Nat.mod_lt _ hp) hp2
theorem rowsP_next (L : LayR) (s k : Nat) : rowsP L s k ++ [vecP L.p s [0, k] L.queries] = rowsP L s (k + 1) := by simp [rowsP, List.range_succ]
theorem info_ww : (Tryz.prog.info? 28).map (fun i => (i.zero, i.size, i.bytes)) = some (some (.slice none 0 0), 1, 24) := by kernel_rfl
theorem el_ww : Elem Tryz.prog 37 28 1 24 (.slice none 0 0) := by
  obtain ⟨i0, hi, hz0, hz1, hz2⟩ := info_parts info_ww
  exact ⟨Tryz.underlying37, ⟨i0, hi, hz0, hz1, hz2⟩, rfl, by omega⟩
/-- ref25.squeeze at a list that lies in a block of its own. -/
theorem rsqx_any (p s : Nat) (r : List Nat) (m g : Nat) (w : World) (hp : 0 < p) (hp2 : p < 18446744073709551616) (kg : Blk w g 22 (U64 (s % bigQ :: r)).toArray) (hr : ∀ x ∈ r, x < 18446744073709551616) (hlen : r.length ≤ 1000) (hm : m ≤ 65536) :
    Calls Tryz.prog 36 #[.int .u64 p, .int .i64 (m : Int), .slice (some ⟨g, 0, none⟩) (r.length + 1) (r.length + 1)] w fun e w' => ∃ v, e = .returned v ∧ w'.ownsRow w.heap.size 22 1 v m (U64 (vecP p s r m)) ∧ Below w.heap.size w w' := by
  have := rsq25_any p (some ⟨g, 0, none⟩) (s % bigQ :: r).length (s % bigQ :: r).length m (s % bigQ :: r) w hp hp2 (lw_lit kg (fun z hz => by
    rcases List.mem_cons.1 hz with rfl | h
    · exact Nat.lt_trans (Nat.mod_lt _ (by decide)) (show bigQ < 18446744073709551616 by decide)
    · exact hr z h) (by simp [maxLen]; omega)) (by simp) (by simp; omega) hm
  exact this

theorem set5_blk {w : World} {g : Nat} {t : TypeId} {y0 y1 y2 y3 y4 : Value} (k : Blk w g t #[y0, y1, y2, y3, y4]) (x0 x1 x2 x3 x4 : Value) : Blk (((((w.setCell ⟨g, 0, none⟩ x0).setCell ⟨g, 1, none⟩ x1).setCell ⟨g, 2, none⟩ x2).setCell ⟨g, 3, none⟩ x3).setCell ⟨g, 4, none⟩ x4) g t #[x0, x1, x2, x3, x4] := by
  have h := (((((k.set_ 0 x0).set_ 1 x1).set_ 2 x2).set_ 3 x3).set_ 4 x4)
  simpa using h
theorem set5_grown {w : World} {g : Nat} (x0 x1 x2 x3 x4 : Value) : w.grownBy (((((w.setCell ⟨g, 0, none⟩ x0).setCell ⟨g, 1, none⟩ x1).setCell ⟨g, 2, none⟩ x2).setCell ⟨g, 3, none⟩ x3).setCell ⟨g, 4, none⟩ x4) (some g) := by
  iterate 5 refine grown_setCell' ?_ (.inl rfl) _
  exact grown_refl' w _

set_option maxRecDepth 100000 in
set_option maxHeartbeats 2000000 in
theorem rFromSeed_any (L : LayR) (s : Nat) (w : World) (hL : LayOk L) (hs : s < 18446744073709551616) :
    Calls Tryz.prog 10 #[.agg (layCs L), .int .u64 s] w fun e w' => ∃ v0 v1 v2 v3 v4, e = .returned (.agg #[v0, v1, v2, v3, v4]) ∧ RRows w' [v0] (rowsP L s (L.a + L.b + L.b + L.b)) ∧ RWd w' [v1] (vecP L.p s [1] L.k) ∧ RWd w' [v2] (vecP L.p s [2] (L.k + L.block - 2)) ∧ RWd w' [v3] (vecP L.p s [3] (L.block + 2 * L.queries - 1)) ∧ RWd w' [v4] (vecP bigQ s [4] L.n) ∧ Below w.heap.size w w' := by
  have hpp := okP_lt hL.p
  have HT := Lib.hid (fun w => rTotal_any L.p L.block L.queries L.k L.n L.secret L.rows L.a L.b L.b L.b w hL.a hL.b hL.b hL.b)
  have HS := Lib.hid (fun r m g w kg hr hlen hm => rsqx_any L.p s r m g w (by omega) hpp.2 kg hr hlen hm)
  have HS4 := Lib.hid (fun r m g w kg hr hlen hm => rsqx_any bigQ s r m g w (by decide) (by decide) kg hr hlen hm)
  have hT4 : L.a + L.b + L.b + L.b ≤ 400000 := by have := hL.a; have := hL.b; omega
  have hq2 := hL.q2
  generalize L.a + L.b + L.b + L.b = T at *
  obtain ⟨x, hx⟩ : ∃ x, x = s % bigQ := ⟨_, rfl⟩
  have e1 : (s : Int) % 18446744069414584321 = (x : Int) := by rw [hx]; unfold bigQ; omega
  have e2 : (s : Int).tmod 18446744069414584321 = (x : Int) := by rw [Int.tmod_eq_emod_of_nonneg (by omega)]; exact e1
  rw [← hx] at HS HS4
  clear hx
  unfold layCs at *
  go_enter Tryz.func10, Tryz.ntmps10
  go_upto_region 3 with fail
  obtain ⟨kl, kz, kc, hb0, hsz⟩ := boxes3 w 34 41 41 #[.int .u64 (L.p : Int), .int .i64 (L.block : Int), .int .i64 (L.queries : Int), .int .i64 (L.k : Int), .int .i64 (L.n : Int), .int .i64 (L.secret : Int), .int .i64 (L.rows : Int), .int .i64 (L.a : Int), .int .i64 (L.b : Int), .int .i64 (L.b : Int), .int .i64 (L.b : Int)] #[.slice none 0 0, .slice none 0 0, .slice none 0 0, .slice none 0 0, .slice none 0 0] #[.slice none 0 0, .slice none 0 0, .slice none 0 0, .slice none 0 0, .slice none 0 0]
  generalize ((w.alloc _).alloc _).alloc _ = w3 at kl kz kc hb0 hsz ⊢
  obtain ⟨N, hN⟩ : ∃ N, N = w3.heap.size := ⟨_, rfl⟩
  rw [← hN] at hsz
  have hNw : N ≤ w3.heap.size := by omega
  have hN2 : w.heap.size + 2 < N := by omega
  clear hN hsz
  go_wp2_with fail
  go_loopw [7] (fun y wr => ∃ (i : Nat) (v : Value) (cs : List Value), i ≤ T ∧ y = .int .i64 (i : Int) ∧ Blk wr w.heap.size 34 #[.int .u64 (L.p : Int), .int .i64 (L.block : Int), .int .i64 (L.queries : Int), .int .i64 (L.k : Int), .int .i64 (L.n : Int), .int .i64 (L.secret : Int), .int .i64 (L.rows : Int), .int .i64 (L.a : Int), .int .i64 (L.b : Int), .int .i64 (L.b : Int), .int .i64 (L.b : Int)] ∧ Blk wr (w.heap.size + 1) 41 #[.slice none 0 0, .slice none 0 0, .slice none 0 0, .slice none 0 0, .slice none 0 0] ∧ Blk wr (w.heap.size + 1 + 1) 41 #[v, .slice none 0 0, .slice none 0 0, .slice none 0 0, .slice none 0 0] ∧ wr.ownsRow N 28 1 v i cs ∧ GRows N wr v cs (rowsP L s i) ∧ Below w.heap.size w wr ∧ N ≤ wr.heap.size) (fun y _ => T - (intOf y).toNat)
  case atStart => exact ⟨0, .slice none 0 0, [], Nat.zero_le _, rfl, kl, kz, kc, ⟨rfl, .inl ⟨rfl, rfl⟩⟩, grows_nil _ _ _, hb0, hNw⟩
  case round =>
    clear kl kz kc hb0 hNw
    obtain ⟨i, v, cs, hi, rfl, kl, kz, kc, hown, hgr, hb0, hNw⟩ := hrel
    have cl := kl.cell
    have ll := kl.lt
    by_cases hlt : i < T
    · have g1 : (0 : Int) ≤ (i : Int) := by omega
      have g2 : (i : Int) < (T : Int) := by omega
      have ew : IntKind.u64.wrap (i : Int) = (i : Int) := by rw [IntKind.wrap_u64]; omega
      have HR := Lib.hid (rowsP_next L s i)
      go_wp2_with fail
      refine (HT.out _).mono ?_
      rintro e w4 ⟨rfl, hb4⟩
      replace kl := kl.below hb4 kl.lt
      replace kz := kz.below hb4 kz.lt
      replace kc := kc.below hb4 kc.lt
      replace hown := own_below hown hb4 (Nat.le_refl _)
      replace hgr := grows_below hgr hb4
      have hN4 : N ≤ w4.heap.size := by have := hb4.size; omega
      replace hb0 := below_chain hb0 hb4
      clear cl ll hb4 hNw
      have cl := kl.cell
      have cc := kc.cell
      have x1 : w.heap.size < N := by omega
      have x2 : w.heap.size + 1 + 1 < N := by omega
      have x3 : w.heap.size ≠ N := by omega
      have x4 : w.heap.size + 1 + 1 ≠ N := by omega
      go_upto_region 6 with fail
      refine wpV_begin (FromX N N) [9, 10, 11, 12, 14] [14] [0, 1, 2, 3, 4, 5, 6, 7, 8, 9, 10, 11, 12, 13, 14] (by kernel_rfl) (by kernel_rfl) ?_
      refine wpV_startK (fromX_moves N N) ?_
      intro Wc HWc hacc
      have hbW : Below w4.heap.size w4 Wc := by rw [HWc.out]; exact (Below.refl _ _).drew
      replace kl := kl.below hbW kl.lt
      replace kz := kz.below hbW kz.lt
      replace kc := kc.below hbW kc.lt
      replace hown := own_below hown hbW (Nat.le_refl _)
      replace hgr := grows_below hgr hbW
      have hNc : N ≤ Wc.heap.size := by have := hbW.size; omega
      replace hb0 := below_chain hb0 hbW
      clear HWc hbW
      repeat (first | (refine wpV_skip (fromX_moves N N) rfl rfl rfl (fun _ _ _ h => h) ?_ ; simp only [Act.put, List.setIfInBounds_toArray, List.set_cons_zero, List.set_cons_succ]) | (refine wpV_light (v := ?_) (fromX_moves N N) rfl rfl rfl (fun _ _ _ h => h) ?_ ?_ ; rotate_left ; (· (intro w' hR ; (first | have hcells := fromX_cellsD ((fromX_moves N N).trans _ _ _ hacc (hR rfl)) | skip) ; clear hR ; go_simp ; try with_reducible rfl)) ; simp only [Act.put, List.setIfInBounds_toArray, List.set_cons_zero, List.set_cons_succ]))
      refine wpV_heavy (fromX_moves N N) rfl rfl rfl ?_
      go_simp
      refine ⟨fun _ => fromX_below ((Below.refl _ _).alloc (Nat.le_refl _) _) hNc, ?_⟩
      have hal := (Below.refl Wc.heap.size Wc).alloc (Nat.le_refl _) (.cells #[.int .u64 (x : Int), .int .u64 0, .int .u64 (i : Int)] 22)
      have kA := Blk.new Wc 22 #[.int .u64 (x : Int), .int .u64 0, .int .u64 (i : Int)]
      replace kl := kl.below hal kl.lt
      replace kz := kz.below hal kz.lt
      replace kc := kc.below hal kc.lt
      replace hown := own_below hown hal (Nat.le_refl _)
      replace hgr := grows_below hgr hal
      have hN6 : N ≤ (Wc.alloc (.cells #[.int .u64 (x : Int), .int .u64 0, .int .u64 (i : Int)] 22)).heap.size := by have := hal.size; omega
      replace hb0 := below_chain hb0 hal
      try simp only [Act.put, List.setIfInBounds_toArray, List.set_cons_zero, List.set_cons_succ]
      generalize Wc.alloc _ = w6 at kl kz kc hown hgr hb0 kA hN6 ⊢
      generalize Wc.heap.size = gA at kA ⊢
      clear hal hNc hacc cl cc
      have hacc := (fromX_moves N N).refl w6
      have kA' : Blk w6 gA 22 (U64 (x :: [0, i])).toArray := by simpa [U64] using kA
      have HC := Lib.hid (HS.out [0, i] L.queries gA w6 kA' (by intro y hy; simp at hy; omega) (by simp) (by omega))
      clear kA kA'
      refine wpV_call (fromX_moves N N) rfl rfl rfl (fun _ => by go_simp <;> rfl) ((HC.out).mono ?_)
      rintro e w7 ⟨va, rfl, hva, hb7⟩
      refine ⟨_, rfl, fun _ => fromX_below hb7 hN6, ?_⟩
      replace hacc := (fromX_moves N N).trans _ _ _ hacc (fromX_below hb7 hN6)
      simp only [Act.put, List.setIfInBounds_toArray, List.set_cons_zero, List.set_cons_succ]
      obtain ⟨Av, cv, rfl, -⟩ := own_form hva
      have hvx := hva
      replace kl := kl.below hb7 kl.lt
      replace kz := kz.below hb7 kz.lt
      replace kc := kc.below hb7 kc.lt
      have hlv : ∀ q, v.ownBlock = some q → q < w6.heap.size := fun q e => (hown.lt q e).2
      replace hown := own_below hown hb7 (Nat.le_refl _)
      replace hgr := grows_below hgr hb7
      have hx7 := rwx_own (N := N) (gb := v.ownBlock) hvx (vecP_lt _ _ _ _ (by omega) hpp.2) hN6 hlv
      have hN7 : N ≤ w7.heap.size := by have := hb7.size; omega
      replace hb0 := below_chain hb0 hb7
      clear hva hvx hlv hb7 hN6 hacc HC
      have hacc := (fromX_moves N N).refl w7
      refine wpV_heavy (fromX_moves N N) rfl rfl rfl ?_
      go_simp
      refine ⟨fun _ => fromX_below ((Below.refl _ _).alloc (Nat.le_refl _) _) hN7, ?_⟩
      have hal := (Below.refl w7.heap.size w7).alloc (Nat.le_refl _) (.cells #[.slice Av L.queries cv] 28)
      have hrd := rd_one w7 (.slice Av L.queries cv) 28
      replace kl := kl.below hal kl.lt
      replace kz := kz.below hal kz.lt
      replace kc := kc.below hal kc.lt
      replace hown := own_below hown hal (Nat.le_refl _)
      replace hgr := grows_below hgr hal
      replace hx7 := rwx_keep hx7 hal.size (fun b _ h2 _ => hal.block b h2)
      have hN8 : N ≤ (w7.alloc (.cells #[.slice Av L.queries cv] 28)).heap.size := by have := hal.size; omega
      replace hb0 := below_chain hb0 hal
      try simp only [Act.put, List.setIfInBounds_toArray, List.set_cons_zero, List.set_cons_succ]
      generalize w7.alloc _ = w8 at kl kz kc hown hgr hx7 hb0 hrd hN8 ⊢
      generalize w7.heap.size = g7 at hrd ⊢
      clear hal hN7 hacc
      have hacc := (fromX_moves N N).refl w8
      have cc := kc.cell
      repeat (first | (refine wpV_skip (fromX_moves N N) rfl rfl rfl (fun _ _ _ h => h) ?_ ; simp only [Act.put, List.setIfInBounds_toArray, List.set_cons_zero, List.set_cons_succ]) | (refine wpV_light (v := ?_) (fromX_moves N N) rfl rfl rfl (fun _ _ _ h => h) ?_ ?_ ; rotate_left ; (· (intro w' hR ; (first | have hcells := fromX_cellsD ((fromX_moves N N).trans _ _ _ hacc (hR rfl)) | skip) ; clear hR ; go_simp ; try with_reducible rfl)) ; simp only [Act.put, List.setIfInBounds_toArray, List.set_cons_zero, List.set_cons_succ]))
      refine wpV_heavy (fromX_moves N N) rfl rfl rfl ?_
      refine wp_append_rd _ _ rfl el_ww rfl hown rfl hrd (by intro u hu; simp at hu; subst hu; rfl) (by omega) hN8 ?_
      intro v' wn hown' hgrow hblk
      have hvb : ∀ q, v.ownBlock = some q → N ≤ q := fun q e => (hown.lt q e).1
      refine ⟨fun _ => fromX_row hgrow hN8 hvb, ?_⟩
      have hgn := grows_app hgr hx7 hgrow hblk
      rw [HR.out] at hgn
      replace kl := kl.grown hgrow (fun e => by first | (have := hvb _ e; omega) | (have := hvb _ e.symm; omega))
      replace kz := kz.grown hgrow (fun e => by first | (have := hvb _ e; omega) | (have := hvb _ e.symm; omega))
      replace kc := kc.grown hgrow (fun e => by first | (have := hvb _ e; omega) | (have := hvb _ e.symm; omega))
      replace hb0 := hb0.trans ((lw_grow hown hgrow hN8).mono (by omega))
      have hNn : N ≤ wn.heap.size := by have := hgrow.size; omega
      obtain ⟨Aw, cw, rfl, -⟩ := own_form hown'
      clear hown hgr hx7 hgrow hblk hvb hN8 hrd cc hacc
      have hacc := (fromX_moves N N).refl wn
      have cc := kc.cell
      have fc := kc.frozen
      try simp only [Act.put, List.setIfInBounds_toArray, List.set_cons_zero, List.set_cons_succ]
      repeat (first | (refine wpV_skip (fromX_moves N N) rfl rfl rfl (fun _ _ _ h => h) ?_ ; simp only [Act.put, List.setIfInBounds_toArray, List.set_cons_zero, List.set_cons_succ]) | (refine wpV_light (v := ?_) (fromX_moves N N) rfl rfl rfl (fun _ _ _ h => h) ?_ ?_ ; rotate_left ; (· (intro w' hR ; (first | have hcells := fromX_cellsD ((fromX_moves N N).trans _ _ _ hacc (hR rfl)) | skip) ; clear hR ; go_simp ; try with_reducible rfl)) ; simp only [Act.put, List.setIfInBounds_toArray, List.set_cons_zero, List.set_cons_succ]))
      refine wpV_heavy (fromX_moves N N) rfl rfl rfl ?_
      go_simp
      refine ⟨fun h => Bool.noConfusion h, ?_⟩
      have hsg : wn.grownBy (wn.setCell ⟨w.heap.size + 1 + 1, 0, none⟩ (.slice Aw (i + 1) cw)) (some (w.heap.size + 1 + 1)) := grown_setCell' (p := ⟨w.heap.size + 1 + 1, 0, none⟩) (grown_refl' wn _) (.inl rfl) _
      replace kc := kc.set_ 0 (.slice Aw (i + 1) cw)
      simp at kc
      replace kl := kl.grown hsg (fun e => by have := Option.some.inj e; omega)
      replace kz := kz.grown hsg (fun e => by have := Option.some.inj e; omega)
      have hown2 := own_stay hown' hsg (by omega)
      replace hgn := grows_only hgn hsg (by omega)
      replace hb0 := hb0.trans (below_of_only hsg hb0.size (by omega))
      have hNz := Nat.le_trans hNn hsg.size
      clear hown' hsg cc fc hNn hacc
      generalize wn.setCell _ _ = wz at kl kz kc hown2 hgn hb0 hNz ⊢
      have hacc := (fromX_moves N N).refl wz
      repeat (first | (refine wpV_skip (fromX_moves N N) rfl rfl rfl (fun _ _ _ h => h) ?_ ; simp only [Act.put, List.setIfInBounds_toArray, List.set_cons_zero, List.set_cons_succ]) | (refine wpV_light (v := ?_) (fromX_moves N N) rfl rfl rfl (fun _ _ _ h => h) ?_ ?_ ; rotate_left ; (· (intro w' hR ; (first | have hcells := fromX_cellsD ((fromX_moves N N).trans _ _ _ hacc (hR rfl)) | skip) ; clear hR ; go_simp ; try with_reducible rfl)) ; simp only [Act.put, List.setIfInBounds_toArray, List.set_cons_zero, List.set_cons_succ]))
      refine wpV_done ?_
      go_wp2
      go_roundw
      case rel => exact ⟨i + 1, .slice Aw (i + 1) cw, _, by omega, by go_num, kl, kz, kc, hown2, hgn, hb0, hNz⟩
      case measure => simp [intOf]; omega
    · obtain rfl : i = T := by omega
      clear ll
      have ll := kl.lt
      have g2 : ¬ ((i : Int) < (i : Int)) := by omega
      go_wp2_with fail
      refine (HT.out _).mono ?_
      rintro e w4 ⟨rfl, hb4⟩
      replace kl := kl.below hb4 kl.lt
      replace kz := kz.below hb4 kz.lt
      replace kc := kc.below hb4 kc.lt
      replace hown := own_below hown hb4 (Nat.le_refl _)
      replace hgr := grows_below hgr hb4
      replace hb0 := below_chain hb0 hb4
      replace hNw := Nat.le_trans hNw hb4.size
      clear cl ll hb4
      have q1 := hL.b1
      have q2 := hL.b2
      have q3 := hL.q1
      have q5 := hL.k
      have q6 := hL.n2
      have w1 : IntKind.i64.wrap ((L.k : Int) + (L.block : Int)) = (L.k : Int) + (L.block : Int) := wr_i64 _ (by omega) (by omega)
      obtain ⟨m2, hm2⟩ : ∃ m2, m2 = L.k + L.block - 2 := ⟨_, rfl⟩
      obtain ⟨m3, hm3⟩ : ∃ m3, m3 = L.block + 2 * L.queries - 1 := ⟨_, rfl⟩
      have w2 : IntKind.i64.wrap ((L.k : Int) + (L.block : Int) - 2) = (m2 : Int) := by rw [wr_i64 _ (by omega) (by omega)]; omega
      have w5 : IntKind.i64.wrap (2 * (L.queries : Int)) = 2 * (L.queries : Int) := wr_i64 _ (by omega) (by omega)
      have w6 : IntKind.i64.wrap ((L.block : Int) + 2 * (L.queries : Int)) = (L.block : Int) + 2 * (L.queries : Int) := wr_i64 _ (by omega) (by omega)
      have w7 : IntKind.i64.wrap ((L.block : Int) + 2 * (L.queries : Int) - 1) = (m3 : Int) := by rw [wr_i64 _ (by omega) (by omega)]; omega
      have u1 : L.k ≤ 65536 := by omega
      have u2 : m2 ≤ 65536 := by omega
      have u3 : m3 ≤ 65536 := by omega
      have u4 : L.n ≤ 65536 := by omega
      have HM2 := Lib.hid hm2
      have HM3 := Lib.hid hm3
      clear hm2 hm3 q1 q2 q3 q5 q6 hlt hi
      have cl := kl.cell
      go_wp2_with fail
      have hal := (Below.refl w4.heap.size w4).alloc (Nat.le_refl _) (.cells #[.int .u64 (x : Int), .int .u64 1] 22)
      have kA := Blk.new w4 22 #[.int .u64 (x : Int), .int .u64 1]
      replace kl := kl.below hal kl.lt
      replace kz := kz.below hal kz.lt
      replace kc := kc.below hal kc.lt
      replace hgr := grows_below hgr hal
      replace hown := own_below hown hal (Nat.le_refl _)
      replace hb0 := below_chain hb0 hal
      replace hNw := Nat.le_trans hNw hal.size
      clear cl hal
      generalize w4.alloc _ = a1 at kl kz kc hgr hown  hb0 hNw kA ⊢
      generalize w4.heap.size = gA1 at kA ⊢
      have HC := Lib.hid (HS.out [1] L.k gA1 a1 (by simpa [U64] using kA) (by intro y hy; simp at hy; omega) (by simp) u1)
      clear kA
      skip
      refine HC.out.mono ?_
      rintro e b1 ⟨v1, rfl, hv, hb⟩
      have o1 := own_base hv hNw
      replace kl := kl.below hb kl.lt
      replace kz := kz.below hb kz.lt
      replace kc := kc.below hb kc.lt
      replace hgr := grows_below hgr hb
      replace hown := own_below hown hb (Nat.le_refl _)
      replace hb0 := below_chain hb0 hb
      replace hNw := Nat.le_trans hNw hb.size
      clear hv hb HC
      obtain ⟨A1, c1, rfl, -⟩ := own_form o1
      have cc := kc.cell
      have fc := kc.frozen
      go_upto_region 8 with fail
      have hsg : b1.grownBy (b1.setCell ⟨w.heap.size + 1 + 1, 1, none⟩ (.slice A1 L.k c1)) (some (w.heap.size + 1 + 1)) := grown_setCell' (p := ⟨w.heap.size + 1 + 1, 1, none⟩) (grown_refl' b1 _) (.inl rfl) _
      replace kc := kc.set_ 1 (.slice A1 L.k c1)
      simp at kc
      replace kl := kl.grown hsg (fun e => by have := Option.some.inj e; omega)
      replace kz := kz.grown hsg (fun e => by have := Option.some.inj e; omega)
      replace hgr := grows_only hgr hsg (by omega)
      replace hown := own_stay hown hsg (by omega)
      replace o1 := own_stay o1 hsg (by omega)
      replace hb0 := hb0.trans (below_of_only hsg hb0.size (by omega))
      replace hNw := Nat.le_trans hNw hsg.size
      clear hsg cc fc
      generalize b1.setCell _ _ = d1 at kl kz kc hgr hown o1 hb0 hNw ⊢
      have cl := kl.cell
      go_wp2_with fail
      have hal := (Below.refl d1.heap.size d1).alloc (Nat.le_refl _) (.cells #[.int .u64 (x : Int), .int .u64 2] 22)
      have kA := Blk.new d1 22 #[.int .u64 (x : Int), .int .u64 2]
      replace kl := kl.below hal kl.lt
      replace kz := kz.below hal kz.lt
      replace kc := kc.below hal kc.lt
      replace hgr := grows_below hgr hal
      replace hown := own_below hown hal (Nat.le_refl _)
      replace o1 := own_below o1 hal (Nat.le_refl _)
      replace hb0 := below_chain hb0 hal
      replace hNw := Nat.le_trans hNw hal.size
      clear cl hal
      generalize d1.alloc _ = a2 at kl kz kc hgr hown o1 hb0 hNw kA ⊢
      generalize d1.heap.size = gA2 at kA ⊢
      have HC := Lib.hid (HS.out [2] m2 gA2 a2 (by simpa [U64] using kA) (by intro y hy; simp at hy; omega) (by simp) u2)
      clear kA
      skip
      refine HC.out.mono ?_
      rintro e b2 ⟨v2, rfl, hv, hb⟩
      have o2 := own_base hv hNw
      replace kl := kl.below hb kl.lt
      replace kz := kz.below hb kz.lt
      replace kc := kc.below hb kc.lt
      replace hgr := grows_below hgr hb
      replace hown := own_below hown hb (Nat.le_refl _)
      replace o1 := own_below o1 hb (Nat.le_refl _)
      replace hb0 := below_chain hb0 hb
      replace hNw := Nat.le_trans hNw hb.size
      clear hv hb HC
      obtain ⟨A2, c2, rfl, -⟩ := own_form o2
      have cc := kc.cell
      have fc := kc.frozen
      go_upto_region 9 with fail
      have hsg : b2.grownBy (b2.setCell ⟨w.heap.size + 1 + 1, 2, none⟩ (.slice A2 m2 c2)) (some (w.heap.size + 1 + 1)) := grown_setCell' (p := ⟨w.heap.size + 1 + 1, 2, none⟩) (grown_refl' b2 _) (.inl rfl) _
      replace kc := kc.set_ 2 (.slice A2 m2 c2)
      simp at kc
      replace kl := kl.grown hsg (fun e => by have := Option.some.inj e; omega)
      replace kz := kz.grown hsg (fun e => by have := Option.some.inj e; omega)
      replace hgr := grows_only hgr hsg (by omega)
      replace hown := own_stay hown hsg (by omega)
      replace o1 := own_stay o1 hsg (by omega)
      replace o2 := own_stay o2 hsg (by omega)
      replace hb0 := hb0.trans (below_of_only hsg hb0.size (by omega))
      replace hNw := Nat.le_trans hNw hsg.size
      clear hsg cc fc
      generalize b2.setCell _ _ = d2 at kl kz kc hgr hown o1 o2 hb0 hNw ⊢
      have cl := kl.cell
      go_wp2_with fail
      have hal := (Below.refl d2.heap.size d2).alloc (Nat.le_refl _) (.cells #[.int .u64 (x : Int), .int .u64 3] 22)
      have kA := Blk.new d2 22 #[.int .u64 (x : Int), .int .u64 3]
      replace kl := kl.below hal kl.lt
      replace kz := kz.below hal kz.lt
      replace kc := kc.below hal kc.lt
      replace hgr := grows_below hgr hal
      replace hown := own_below hown hal (Nat.le_refl _)
      replace o1 := own_below o1 hal (Nat.le_refl _)
      replace o2 := own_below o2 hal (Nat.le_refl _)
      replace hb0 := below_chain hb0 hal
      replace hNw := Nat.le_trans hNw hal.size
      clear cl hal
      generalize d2.alloc _ = a3 at kl kz kc hgr hown o1 o2 hb0 hNw kA ⊢
      generalize d2.heap.size = gA3 at kA ⊢
      have HC := Lib.hid (HS.out [3] m3 gA3 a3 (by simpa [U64] using kA) (by intro y hy; simp at hy; omega) (by simp) u3)
      clear kA
      skip
      refine HC.out.mono ?_
      rintro e b3 ⟨v3, rfl, hv, hb⟩
      have o3 := own_base hv hNw
      replace kl := kl.below hb kl.lt
      replace kz := kz.below hb kz.lt
      replace kc := kc.below hb kc.lt
      replace hgr := grows_below hgr hb
      replace hown := own_below hown hb (Nat.le_refl _)
      replace o1 := own_below o1 hb (Nat.le_refl _)
      replace o2 := own_below o2 hb (Nat.le_refl _)
      replace hb0 := below_chain hb0 hb
      replace hNw := Nat.le_trans hNw hb.size
      clear hv hb HC
      obtain ⟨A3, c3, rfl, -⟩ := own_form o3
      have cc := kc.cell
      have fc := kc.frozen
      go_upto_region 10 with fail
      have hsg : b3.grownBy (b3.setCell ⟨w.heap.size + 1 + 1, 3, none⟩ (.slice A3 m3 c3)) (some (w.heap.size + 1 + 1)) := grown_setCell' (p := ⟨w.heap.size + 1 + 1, 3, none⟩) (grown_refl' b3 _) (.inl rfl) _
      replace kc := kc.set_ 3 (.slice A3 m3 c3)
      simp at kc
      replace kl := kl.grown hsg (fun e => by have := Option.some.inj e; omega)
      replace kz := kz.grown hsg (fun e => by have := Option.some.inj e; omega)
      replace hgr := grows_only hgr hsg (by omega)
      replace hown := own_stay hown hsg (by omega)
      replace o1 := own_stay o1 hsg (by omega)
      replace o2 := own_stay o2 hsg (by omega)
      replace o3 := own_stay o3 hsg (by omega)
      replace hb0 := hb0.trans (below_of_only hsg hb0.size (by omega))
      replace hNw := Nat.le_trans hNw hsg.size
      clear hsg cc fc
      generalize b3.setCell _ _ = d3 at kl kz kc hgr hown o1 o2 o3 hb0 hNw ⊢
      have cl := kl.cell
      go_wp2_with fail
      have hal := (Below.refl d3.heap.size d3).alloc (Nat.le_refl _) (.cells #[.int .u64 (x : Int), .int .u64 4] 22)
      have kA := Blk.new d3 22 #[.int .u64 (x : Int), .int .u64 4]
      replace kl := kl.below hal kl.lt
      replace kz := kz.below hal kz.lt
      replace kc := kc.below hal kc.lt
      replace hgr := grows_below hgr hal
      replace hown := own_below hown hal (Nat.le_refl _)
      replace o1 := own_below o1 hal (Nat.le_refl _)
      replace o2 := own_below o2 hal (Nat.le_refl _)
      replace o3 := own_below o3 hal (Nat.le_refl _)
      replace hb0 := below_chain hb0 hal
      replace hNw := Nat.le_trans hNw hal.size
      clear cl hal
      generalize d3.alloc _ = a4 at kl kz kc hgr hown o1 o2 o3 hb0 hNw kA ⊢
      generalize d3.heap.size = gA4 at kA ⊢
      have HC := Lib.hid (HS4.out [4] L.n gA4 a4 (by simpa [U64] using kA) (by intro y hy; simp at hy; omega) (by simp) u4)
      clear kA
      unfold bigQ at HC
      refine HC.out.mono ?_
      rintro e b4 ⟨v4, rfl, hv, hb⟩
      have o4 := own_base hv hNw
      replace kl := kl.below hb kl.lt
      replace kz := kz.below hb kz.lt
      replace kc := kc.below hb kc.lt
      replace hgr := grows_below hgr hb
      replace hown := own_below hown hb (Nat.le_refl _)
      replace o1 := own_below o1 hb (Nat.le_refl _)
      replace o2 := own_below o2 hb (Nat.le_refl _)
      replace o3 := own_below o3 hb (Nat.le_refl _)
      replace hb0 := below_chain hb0 hb
      replace hNw := Nat.le_trans hNw hb.size
      clear hv hb HC
      obtain ⟨A4, c4, rfl, -⟩ := own_form o4
      have cc := kc.cell
      have fc := kc.frozen
      go_upto_region 11 with fail
      have hsg : b4.grownBy (b4.setCell ⟨w.heap.size + 1 + 1, 4, none⟩ (.slice A4 L.n c4)) (some (w.heap.size + 1 + 1)) := grown_setCell' (p := ⟨w.heap.size + 1 + 1, 4, none⟩) (grown_refl' b4 _) (.inl rfl) _
      replace kc := kc.set_ 4 (.slice A4 L.n c4)
      simp at kc
      replace kl := kl.grown hsg (fun e => by have := Option.some.inj e; omega)
      replace kz := kz.grown hsg (fun e => by have := Option.some.inj e; omega)
      replace hgr := grows_only hgr hsg (by omega)
      replace hown := own_stay hown hsg (by omega)
      replace o1 := own_stay o1 hsg (by omega)
      replace o2 := own_stay o2 hsg (by omega)
      replace o3 := own_stay o3 hsg (by omega)
      replace o4 := own_stay o4 hsg (by omega)
      replace hb0 := hb0.trans (below_of_only hsg hb0.size (by omega))
      replace hNw := Nat.le_trans hNw hsg.size
      clear hsg cc fc
      generalize b4.setCell _ _ = d4 at kl kz kc hgr hown o1 o2 o3 o4 hb0 hNw ⊢
      obtain ⟨Av, cv, rfl, -⟩ := own_form hown
      have cc := kc.cell
      have fc := kc.frozen
      have zc := kz.cell
      have zf := kz.frozen
      go_wp2_with fail
      have hsg := set5_grown (w := d4) (g := w.heap.size + 1) (.slice Av i cv) (.slice A1 L.k c1) (.slice A2 m2 c2) (.slice A3 m3 c3) (.slice A4 L.n c4)
      replace kz := set5_blk kz (.slice Av i cv) (.slice A1 L.k c1) (.slice A2 m2 c2) (.slice A3 m3 c3) (.slice A4 L.n c4)
      replace hgr := grows_only hgr hsg (by omega)
      replace hown := own_stay hown hsg (by omega)
      replace o1 := own_stay o1 hsg (by omega)
      replace o2 := own_stay o2 hsg (by omega)
      replace o3 := own_stay o3 hsg (by omega)
      replace o4 := own_stay o4 hsg (by omega)
      replace hb0 := hb0.trans (below_of_only hsg hb0.size (by omega))
      clear kl kc cc fc zc zf hsg hNw
      generalize ((((d4.setCell _ _).setCell _ _).setCell _ _).setCell _ _).setCell _ _ = d5 at kz hgr hown o1 o2 o3 o4 hb0 ⊢
      have zc := kz.cell
      refine bodyPost_ret (v := .agg #[.slice Av i cv, .slice A1 L.k c1, .slice A2 m2 c2, .slice A3 m3 c3, .slice A4 L.n c4]) (by simp [results, Tryz.results10, go_sem, zc]) rfl ?_
      obtain rfl := HM2.out
      obtain rfl := HM3.out
      have hp0 : 0 < L.p := by omega
      exact ⟨_, _, _, _, _, rfl, grows_done hgr hown, lw_own o1 (vecP_lt _ _ _ _ hp0 hpp.2), lw_own o2 (vecP_lt _ _ _ _ hp0 hpp.2), lw_own o3 (vecP_lt _ _ _ _ hp0 hpp.2), lw_own o4 (vecP_lt _ _ _ _ (by decide) (by decide)), hb0⟩
end Go.Proofs.YtefnagiffllhbaaGreat
