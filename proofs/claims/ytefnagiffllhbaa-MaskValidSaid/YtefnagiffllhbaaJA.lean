/-
  mask.Columns.
-/
import Derived.Test.YtefnagiffllhbaaSqA
import Derived.Test.YtefnagiffllhbaaRSpoA
import Derived.Test.YtefnagiffllhbaaRefJ
import Derived.Test.YtefnagiffllhbaaRefK
import Derived.Test.YtefnagiffllhbaaRowG
import Derived.Test.YtefnagiffllhbaaOrdK
import Derived.Test.YtefnagiffllhbaaMkE
import Derived.Test.YtefnagiffllhbaaRowF

/-! SqB -/
namespace Go.Proofs.Ytefnagiffllhbaa
open Go.RowKit

theorem own_stay {w w' : World} {base B : Nat} {e : TypeId} {size : Nat} {v : Value} {n : Nat} {xs : List Value} (h : w.ownsRow base e size v n xs) (hg : w.grownBy w' (some B)) (hB : B < base) : w'.ownsRow base e size v n xs := by
  obtain ⟨h1, h2⟩ := h
  refine ⟨h1, ?_⟩
  rcases h2 with h2 | ⟨g, cap, cur, hv, hgb, hh, r⟩
  · exact Or.inl h2
  · exact Or.inr ⟨g, cap, cur, hv, hgb, by rw [hg.block g (Array.getElem?_eq_some_iff.1 hh).1 (fun e => by have := Option.some.inj e; omega)]; exact hh, r⟩
theorem range_snoc (f : Nat → Nat) (i : Nat) : (List.range i).map f ++ [f i] = (List.range (i + 1)).map f := by simp [List.range_succ]

set_option maxRecDepth 100000 in
set_option maxHeartbeats 1000000 in
theorem rSqueeze_any (p label : Nat) (A : Option Addr) (n c m : Nat) (l : List Nat) (w : World) (hp : okP p = true) (hl : RWd w [.slice A n c] l) (hne : 0 < l.length) (hlen : l.length ≤ 1000000) (hm : m ≤ 65536) :
    Calls Try.prog 63 #[.int .u64 p, .int .u64 label, .slice A n c, .int .i64 (m : Int)] w fun e w' => ∃ v, e = .returned v ∧ w'.ownsRow w.heap.size 22 1 v m (U64 ((List.range m).map (sqAt p (absorbP p label l)))) ∧ Below w.heap.size w w' := by
  obtain ⟨hp1, hp2⟩ := okP_lt hp
  have HV := Lib.hid (fun w => by have := rValidP_any p w hp2; rw [hp] at this; exact this)
  have HAb := Lib.hid (fun w' (hb : Below w.heap.size w w') => rAbsorb_any p label A n c l w' hp (kept_RWd _ _ _ _ hb hl) hne hlen)
  have HP := Lib.hid (fun s w => rPermute_any p s w hp)
  have g0 : ¬ ((m : Int) < 0) := by omega
  have g1 : (m : Int) ≤ 65536 := by omega
  clear hl hne hlen hp hp1 hp2
  generalize absorbP p label l = s at *
  go_enter Try.func63, Try.ntmps63
  go_wp2_with fail
  refine (HV.out _).mono ?_
  rintro e w1 ⟨rfl, hb1⟩
  go_wp2_with fail
  refine (HAb.out _ hb1).mono ?_
  rintro e w2 ⟨rfl, hb2⟩
  have hb0 := below_chain hb1 hb2
  have ev : s.val = .agg #[.int .u64 (s.a : Int), .int .u64 (s.b : Int), .int .u64 (s.c : Int)] := rfl
  rw [ev]
  have hal := (Below.refl w2.heap.size w2).alloc (Nat.le_refl _) (.cells #[.int .u64 (s.a : Int), .int .u64 (s.b : Int), .int .u64 (s.c : Int)] 120)
  have ks0 := Blk.new w2 120 #[.int .u64 (s.a : Int), .int .u64 (s.b : Int), .int .u64 (s.c : Int)]
  have hs2 := hb0.size
  replace hb0 := below_chain hb0 hal
  clear ev hb1 hb2 hal
  go_upto_region 4 with fail
  generalize w2.alloc _ = w3 at ks0 hb0 ⊢
  generalize w2.heap.size = gs at *
  have ks : Blk w3 gs 120 (perI p s (0 / 2)).cs := ks0
  clear ks0
  have hgs : gs < w3.heap.size := ks.lt
  go_wp2_with fail
  go_loopw [10, 11] (fun v y wr => ∃ i : Nat, i ≤ m ∧ y = .int .i64 (i : Int) ∧ Blk wr gs 120 (perI p s (i / 2)).cs ∧ wr.ownsRow w3.heap.size 22 1 v i (U64 ((List.range i).map (sqAt p s))) ∧ Below w.heap.size w wr ∧ w3.heap.size ≤ wr.heap.size) (fun _ y _ => m - (intOf y).toNat)
  case atStart => exact ⟨0, Nat.zero_le _, rfl, ks, ⟨rfl, .inl ⟨rfl, rfl⟩⟩, hb0, Nat.le_refl _⟩
  case round =>
    clear ks hb0
    obtain ⟨i, hi, rfl, ks, hown, hb0, hsz⟩ := hrel
    by_cases hlt : i < m
    · have g2 : (i : Int) < (m : Int) := by omega
      have g3 : (0 : Int) ≤ (i : Int) := by omega
      obtain ⟨sv, hsv⟩ : ∃ sv, sv = sqAt p s i := ⟨_, rfl⟩
      obtain ⟨j, hj⟩ : ∃ j, j = i % 2 := ⟨_, rfl⟩
      have hj3 : j < 3 := by omega
      have ej : (i : Int) % 2 = (j : Int) := by omega
      have ej2 : (i : Int).tmod 2 = (j : Int) := by rw [Int.tmod_eq_emod_of_nonneg (by omega)]; exact ej
      have HSQ := Lib.hid (show (perI p s (i / 2)).at_ j = sv by rw [hj, hsv]; rfl)
      have HRS := Lib.hid (show (List.range i).map (sqAt p s) ++ [sv] = (List.range (i + 1)).map (sqAt p s) by rw [hsv]; exact range_snoc _ _)
      have cj := ks.cell j
      rw [St.cs_at _ hj3, HSQ.out] at cj
      obtain ⟨q, hq⟩ : ∃ q, q = perI p s (i / 2) := ⟨_, rfl⟩
      rw [← hq] at ks
      have HQ := Lib.hid hq.symm
      have HJ := Lib.hid hj
      clear hsv hq hj
      go_wp2_with (at_builtin; refine wpl_append rfl _ _ rfl el_w rfl (hown.alloc _) rfl (rd_one _ _ _) (one_U64 [sv]) (by omega) (by simp; omega) ?_)
      intro v' wn hown' hgrow hblk
      have hal := (Below.refl wr.heap.size wr).alloc (Nat.le_refl _) (.cells #[.int .u64 (sv : Int)] 22)
      have hB := lw_grow (hown.alloc _) hgrow (by simp; omega)
      have hks := (ks.below hal ks.lt).below hB hgs
      replace hb0 := (below_on hb0 hal hb0.size).trans (hB.mono (by have := hb0.size; omega))
      have hszn : w3.heap.size ≤ wn.heap.size := by have := hgrow.size; simp at this; omega
      replace hown' : wn.ownsRow w3.heap.size 22 1 v' (i + 1) (U64 ((List.range (i + 1)).map (sqAt p s))) := lw_app (a := (List.range i).map (sqAt p s)) (b := [sv]) hown' HRS.out
      clear hown hgrow hblk hal hB ks cj hsz
      rcases (show j = 0 ∨ j = 1 by have := HJ.out; omega) with h0 | h1
      · have d3 : ((j : Int) == 1) = false := by rw [beq_eq_false_iff_ne]; omega
        have HH := Lib.hid (show i / 2 = (i + 1) / 2 by have := HJ.out; omega)
        rw [← HQ.out, HH.out] at hks
        clear h0
        go_wp2
        go_roundw
        case rel => exact ⟨i + 1, by omega, by go_num, hks, hown', hb0, hszn⟩
        case measure => simp [intOf]; omega
      · have d3 : ((j : Int) == 1) = true := by rw [beq_iff_eq]; omega
        have HH := Lib.hid (show (i + 1) / 2 = i / 2 + 1 by have := HJ.out; omega)
        obtain ⟨z, hz⟩ : ∃ z, z = permP p q := ⟨_, rfl⟩
        have HZ := Lib.hid (show perI p s ((i + 1) / 2) = z by rw [HH.out, perI, HQ.out, hz])
        have HX := Lib.hid (show ∀ w, Calls Try.prog 100 #[.int .u64 p, .agg #[.int .u64 (q.a : Int), .int .u64 (q.b : Int), .int .u64 (q.c : Int)]] w fun e w' => e = .returned (.agg #[.int .u64 (z.a : Int), .int .u64 (z.b : Int), .int .u64 (z.c : Int)]) ∧ Below w.heap.size w w' from fun w => by rw [hz]; exact HP.out q w)
        have ks2 : Blk wn gs 120 #[.int .u64 (q.a : Int), .int .u64 (q.b : Int), .int .u64 (q.c : Int)] := hks
        clear h1 hz hks
        have cs := ks2.cell
        go_wp2_with fail
        refine (HX.out _).mono ?_
        rintro e w5 ⟨rfl, hb5⟩
        replace ks2 := ks2.below hb5 ks2.lt
        replace hown' := own_below hown' hb5 (Nat.le_refl _)
        replace hb0 := below_chain hb0 hb5
        have hs5 := hb5.size
        clear cs hb5
        have cs := ks2.cell
        have fs := ks2.frozen
        go_wp2_with fail
        have hg := set3_grown (w := w5) (g := gs) (.int .u64 (z.a : Int)) (.int .u64 (z.b : Int)) (.int .u64 (z.c : Int))
        have ks : Blk _ gs 120 z.cs := set3_blk ks2 (.int .u64 (z.a : Int)) (.int .u64 (z.b : Int)) (.int .u64 (z.c : Int))
        replace hown' := own_stay hown' hg hgs
        replace hb0 := hb0.trans (below_of_only hg hb0.size (by omega))
        have hs6 := hg.size
        clear hg cs fs ks2
        go_roundw
        case rel => exact ⟨i + 1, by omega, by go_num, by rw [HZ.out]; exact ks, hown', hb0, by omega⟩
        case measure => simp [intOf]; omega
    · obtain rfl : i = m := by omega
      go_wp2
      go_ret
      exact ⟨_, rfl, own_base hown (by omega), hb0⟩
end Go.Proofs.Ytefnagiffllhbaa

/-! MkA -/
namespace Go.Proofs.Ytefnagiffllhbaa
open Go.RowKit

def bigQ : Nat := 18446744069414584321
theorem okBig : okP bigQ = true := by decide
/-- Draw k of the big prime, out of a list whose head is reduced. -/
def drawAt (x : Nat) (r : List Nat) (k : Nat) : Nat := sqAt bigQ (absorbP bigQ 22 (x % bigQ :: r)) k

set_option maxRecDepth 100000 in
set_option maxHeartbeats 1000000 in
theorem pDraws_any (x : Nat) (r : List Nat) (m g : Nat) (w : World) (kg : Blk w g 22 (U64 (x :: r)).toArray) (hx : ∀ y ∈ x :: r, y < 18446744073709551616) (hr : r.length ≤ 1000) (hm : m ≤ 65536) :
    Calls Try.prog 28 #[.int .i64 (m : Int), .slice (some ⟨g, 0, none⟩) (r.length + 1) (r.length + 1)] w fun e w' => ∃ g', e = .returned (.slice (some ⟨g', 0, none⟩) m m) ∧ w.heap.size ≤ g' ∧ Blk w' g' 22 (fillC m (drawAt x r)) ∧ w.grownBy w' (some g) := by
  have HR := Lib.hid (fun w => fReduce_any bigQ x w okBig)
  have hq : x % bigQ < 18446744073709551616 := Nat.lt_of_le_of_lt (Nat.mod_le _ _) (hx x (by simp))
  obtain ⟨y, hy⟩ : ∃ y, y = x % bigQ := ⟨_, rfl⟩
  have HD := Lib.hid (show drawAt x r = sqAt bigQ (absorbP bigQ 22 (y :: r)) by rw [hy]; rfl)
  rw [← hy] at HR hq
  rw [HD.out]
  have HS := Lib.hid (fun w (k : Blk w g 22 (U64 (y :: r)).toArray) => pSqueeze_any bigQ 22 (some ⟨g, 0, none⟩) (y :: r).length (y :: r).length m (y :: r) w okBig (lw_lit k (fun z hz => by
    rcases List.mem_cons.1 hz with rfl | h
    · exact hq
    · exact hx z (by simp [h])) (by simp [maxLen]; omega)) (by simp) (by simp; omega) hm)
  have HST := Lib.hid (show (U64 (x :: r)).toArray.setIfInBounds 0 (.int .u64 (y : Int)) = (U64 (y :: r)).toArray by simp [U64])
  have hc0 : w.cell? ⟨g, 0, none⟩ = some (.int .u64 (x : Int)) := by rw [kg.cell]; simp [U64]
  have n1 : (0 : Int) < ((r.length + 1 : Nat) : Int) := by omega
  have n2 : 0 < r.length + 1 := by omega
  simp only [List.length_cons] at HS
  clear hy hq hx HD
  generalize r.length + 1 = n at *
  generalize sqAt bigQ (absorbP bigQ 22 (y :: r)) = fs at *
  unfold bigQ fv at *
  have lg := kg.lt
  go_enter Try.func28, Try.ntmps28
  go_wp2_with fail
  refine (HR.out _).mono ?_
  rintro e w1 ⟨rfl, hb1⟩
  replace kg := kg.below hb1 lg
  have hc1 : w1.cell? ⟨g, 0, none⟩ = some (.int .u64 (x : Int)) := (Below.cell hb1 lg).trans hc0
  have f1 := kg.frozen 0
  clear hc0
  go_upto_region 2 with fail
  have hg : w1.grownBy (w1.setCell ⟨g, 0, none⟩ (.int .u64 (y : Int))) (some g) := grown_setCell' (p := ⟨g, 0, none⟩) (grown_refl' w1 _) (.inl rfl) _
  replace kg := kg.set_ 0 (.int .u64 (y : Int))
  rw [HST.out] at kg
  have hgr := grown_step (grown_below (grown_refl' w (some g)) hb1 (Nat.le_refl _)) hg (fun _ e => .inl e)
  have hs1 := hgr.size
  clear hg f1 hc1 hb1
  generalize w1.setCell _ _ = w2 at kg hgr hs1 ⊢
  go_wp2_with fail
  refine (HS.out _ kg).mono ?_
  rintro e w3 ⟨g', rfl, hg', kg', hb3⟩
  go_wp2
  go_ret
  exact ⟨g', rfl, by omega, kg', grown_below hgr hb3 hs1⟩
end Go.Proofs.Ytefnagiffllhbaa

/-! MkB -/
namespace Go.Proofs.Ytefnagiffllhbaa
open Go.RowKit

/-- Draw k for a mask: of the big prime, then by the layout's. -/
def drawP (p x : Nat) (r : List Nat) (k : Nat) : Nat := drawAt x r k % p

theorem set3_two {w0 w : World} {g B : Nat} {t : TypeId} {y0 y1 y2 : Value} (k : Blk w g t #[y0, y1, y2]) (hb : Below B w0 w) (hB : B ≤ g) (x0 x1 x2 : Value) :
    Blk (((w.setCell ⟨g, 0, none⟩ x0).setCell ⟨g, 1, none⟩ x1).setCell ⟨g, 2, none⟩ x2) g t #[x0, x1, x2] ∧ Below B w0 (((w.setCell ⟨g, 0, none⟩ x0).setCell ⟨g, 1, none⟩ x1).setCell ⟨g, 2, none⟩ x2) :=
  ⟨set3_blk k x0 x1 x2, ((hb.setCell hB x0).setCell hB x1).setCell hB x2⟩
def St.lt (p : Nat) (s : St) : Prop := s.a < p ∧ s.b < p ∧ s.c < p
theorem permP_lt {p : Nat} (hp : 0 < p) (s : St) : (permP p s).lt p := ⟨Nat.mod_lt _ hp, Nat.mod_lt _ hp, Nat.mod_lt _ hp⟩
theorem absP_lt {p : Nat} (hp : 0 < p) : ∀ (l : List Nat) (s : St), s.lt p → (absP p l s).lt p
  | [], _, h => h
  | [_], _, _ => permP_lt hp _
  | _ :: _ :: r, _, _ => absP_lt hp r _ (permP_lt hp _)
theorem perI_lt {p : Nat} (hp : 0 < p) (s : St) (h : s.lt p) : ∀ m, (perI p s m).lt p
  | 0 => h
  | _ + 1 => permP_lt hp _
theorem sqAt_lt (p label : Nat) (l : List Nat) (k : Nat) (hp : 0 < p) : sqAt p (absorbP p label l) k < p := by
  have h := perI_lt hp _ (absP_lt hp l ⟨0, 0, (label * 65536 % p + l.length) % p⟩ ⟨hp, hp, Nat.mod_lt _ hp⟩) (k / 2)
  show St.at_ _ (k % 2) < p
  unfold St.at_
  split
  · exact h.1
  · split
    · exact h.2.1
    · exact h.2.2

set_option maxRecDepth 100000 in
set_option maxHeartbeats 1000000 in
theorem codeSize_any (L : LayR) (w : World) (hL : LayOk L) :
    Calls Try.prog 25 #[.agg (layCs L)] w fun e w' => e = .returned (.agg #[.int .i64 (L.k : Int), .int .i64 ((L.k + L.block - 2 : Nat) : Int), .int .i64 ((L.block + 2 * L.queries - 1 : Nat) : Int)]) ∧ Below w.heap.size w w' := by
  have h1 := hL.b1
  have h2 := hL.b2
  have h3 := hL.q1
  have h4 := hL.q2
  have h5 := hL.k
  obtain ⟨x, hx⟩ : ∃ x, x = L.k + L.block - 2 := ⟨_, rfl⟩
  obtain ⟨y, hy⟩ : ∃ y, y = L.block + 2 * L.queries - 1 := ⟨_, rfl⟩
  rw [← hx, ← hy]
  have e1 : IntKind.i64.wrap ((L.k : Int) + (L.block : Int)) = (L.k : Int) + (L.block : Int) := wr_i64 _ (by omega) (by omega)
  have e2 : IntKind.i64.wrap ((L.k : Int) + (L.block : Int) - 2) = (x : Int) := by rw [wr_i64 _ (by omega) (by omega)]; omega
  have e3 : IntKind.i64.wrap (2 * (L.queries : Int)) = 2 * (L.queries : Int) := wr_i64 _ (by omega) (by omega)
  have e4 : IntKind.i64.wrap ((L.block : Int) + 2 * (L.queries : Int)) = (L.block : Int) + 2 * (L.queries : Int) := wr_i64 _ (by omega) (by omega)
  have e5 : IntKind.i64.wrap ((L.block : Int) + 2 * (L.queries : Int) - 1) = (y : Int) := by rw [wr_i64 _ (by omega) (by omega)]; omega
  clear h1 h2 h3 h4 h5 hx hy hL
  unfold layCs at *
  go_enter Try.func25, Try.ntmps25
  go_wp2_with fail
  exact bodyPost_ret (v := .agg #[.int .i64 (L.k : Int), .int .i64 (x : Int), .int .i64 (y : Int)]) (by simp [results, Try.results25, go_sem]) rfl ⟨rfl, ((Below.refl _ w).alloc (Nat.le_refl _) _).alloc (by simp) _⟩

set_option maxRecDepth 100000 in
set_option maxHeartbeats 1000000 in
theorem mSqueeze_any (L : LayR) (x : Nat) (r : List Nat) (m g : Nat) (w : World) (hp : okP L.p = true) (kg : Blk w g 22 (U64 (x :: r)).toArray) (hx : ∀ y ∈ x :: r, y < 18446744073709551616) (hr : r.length ≤ 1000) (hm : m ≤ 65536) :
    Calls Try.prog 27 #[.agg (layCs L), .int .i64 (m : Int), .slice (some ⟨g, 0, none⟩) (r.length + 1) (r.length + 1)] w fun e w' => ∃ g', e = .returned (.slice (some ⟨g', 0, none⟩) m m) ∧ w.heap.size ≤ g' ∧ Blk w' g' 22 (fillC m (drawP L.p x r)) ∧ w.grownBy w' (some g) := by
  have HD := Lib.hid (fun w k => pDraws_any x r m g w k hx hr hm)
  have HR := Lib.hid (fun n w => fReduce_any L.p n w hp)
  have lg := kg.lt
  obtain ⟨kl, kf, hba, hsz⟩ := boxes2 w 41 88 (layCs L) #[.int .u64 (L.p : Int)]
  have kg2 := kg.below hba lg
  have HF := Lib.hid (fun k hk => fill_get (n := m) (f := drawAt x r) (k := k) hk)
  have hfp : drawP L.p x r = fun k => drawAt x r k % L.p := rfl
  rw [hfp]
  clear hx hr hfp
  generalize r.length + 1 = n at *
  generalize drawAt x r = fs at *
  generalize (U64 (x :: r)).toArray = us at *
  unfold layCs fv at *
  generalize L.p = p at *
  go_enter Try.func27, Try.ntmps27
  go_wp2_with fail
  generalize (w.alloc _).alloc _ = w2 at kf kg2 hba hsz ⊢
  clear kl kg
  refine (HD.out _ kg2).mono ?_
  rintro e w3 ⟨g', rfl, hg', kg', hgr⟩
  replace kf := kf.grown hgr (fun e => by have := Option.some.inj e; omega)
  replace hgr : w.grownBy w3 (some g) := grown_step (grown_below (grown_refl' w (some g)) hba (Nat.le_refl _)) hgr (fun _ e => .inl e)
  rw [show fillC m fs = fillC m (fun k => if k < 0 then fs k % p else fs k) from fill_same fun i _ => by rw [if_neg (by omega)]] at kg'
  clear kg2
  go_wp2_with fail
  go_loopw [19] (fun y wr => ∃ i : Nat, i ≤ m ∧ y = .int .i64 (i : Int) ∧ Blk wr (w.heap.size + 1) 88 #[.int .u64 (p : Int)] ∧ Blk wr g' 22 (fillC m fun k => if k < i then fs k % p else fs k) ∧ w.grownBy wr (some g)) (fun y _ => m - (intOf y).toNat)
  case atStart => exact ⟨0, Nat.zero_le _, rfl, kf, kg', hgr⟩
  case round =>
    clear kf kg' hgr
    obtain ⟨i, hi, rfl, kf, kg', hgr⟩ := hrel
    by_cases hlt : i < m
    · have g2 : (i : Int) < (m : Int) := by omega
      have g3 : (0 : Int) ≤ (i : Int) := by omega
      have ci := kg'.cell i
      rw [fill_get _ hlt, if_neg (Nat.lt_irrefl i)] at ci
      have cf := kf.cell
      obtain ⟨fi, hfi⟩ : ∃ fi, fi = fs i := ⟨_, rfl⟩
      obtain ⟨z, hz⟩ : ∃ z, z = fi % p := ⟨_, rfl⟩
      have HZ := Lib.hid (show fs i % p = z by rw [← hfi, hz])
      have HX := Lib.hid (fun w => by have := HR.out fi w; rw [← hz] at this; exact this)
      rw [← hfi] at ci
      clear hfi hz
      go_wp2_with fail
      refine (HX.out _).mono ?_
      rintro e w5 ⟨rfl, hb5⟩
      replace kf := kf.below hb5 kf.lt
      replace kg' := kg'.below hb5 kg'.lt
      have hgr5 : w.grownBy w5 (some g) := grown_below hgr hb5 hgr.size
      clear ci cf hgr hb5
      have fi2 := kg'.frozen i
      have ci2 := kg'.cell i
      rw [fill_get _ hlt] at ci2
      generalize (if i < i then fs i % p else fs i) = old at ci2
      go_wp2_with fail
      have hg : w5.grownBy (w5.setCell ⟨g', i, none⟩ (.int .u64 (z : Int))) (some g') := grown_setCell' (p := ⟨g', i, none⟩) (grown_refl' w5 _) (.inl rfl) _
      replace kf := kf.grown hg (fun e => by have := Option.some.inj e; omega)
      replace kg' := kg'.set_ i (.int .u64 (z : Int))
      have HN : (fillC m fun k => if k < i then fs k % p else fs k).setIfInBounds i (.int .u64 (z : Int)) = fillC m (fun k => if k < i + 1 then fs k % p else fs k) := by
        rw [fill_set]
        refine fill_same fun k _ => ?_
        simp only [putF]
        by_cases h : k = i
        · subst h; rw [if_pos rfl, if_pos (by omega), HZ.out]
        · rw [if_neg h]
          by_cases h2 : k < i
          · rw [if_pos h2, if_pos (by omega)]
          · rw [if_neg h2, if_neg (by omega)]
      rw [HN] at kg'
      have hgr6 := grown_step hgr5 hg (fun b e => by have := Option.some.inj e; subst this; exact .inr (by omega))
      clear hgr5 hg fi2 ci2
      go_roundw
      case rel => exact ⟨i + 1, by omega, by go_num, kf, kg', hgr6⟩
      case measure => simp [intOf]; omega
    · obtain rfl : i = m := by omega
      rw [show fillC i (fun k => if k < i then fs k % p else fs k) = fillC i (fun k => fs k % p) from fill_same fun k hk => by rw [if_pos hk]] at kg'
      go_wp2
      go_ret
      exact ⟨g', rfl, by omega, kg', hgr⟩

set_option maxRecDepth 100000 in
set_option maxHeartbeats 1000000 in
theorem rsq25_any (p : Nat) (A : Option Addr) (n c m : Nat) (l : List Nat) (w : World) (hp : 0 < p) (hp2 : p < 18446744073709551616) (hl : RWd w [.slice A n c] l) (hne : 0 < l.length) (hlen : l.length ≤ 1000000) (hm : m ≤ 65536) :
    Calls Try.prog 31 #[.int .u64 p, .int .i64 (m : Int), .slice A n c] w fun e w' => ∃ v, e = .returned v ∧ w'.ownsRow w.heap.size 22 1 v m (U64 ((List.range m).map fun k => sqAt bigQ (absorbP bigQ 22 l) k % p)) ∧ Below w.heap.size w w' := by
  have HS := Lib.hid (rSqueeze_any bigQ 22 A n c m l w okBig hl hne hlen hm)
  have HB := Lib.hid (fun k => Nat.lt_trans (sqAt_lt bigQ 22 l k (by decide)) (show bigQ < 18446744073709551616 by decide))
  clear hl hne hlen
  generalize sqAt bigQ (absorbP bigQ 22 l) = fs at *
  unfold bigQ at HS
  go_enter Try.func31, Try.ntmps31
  go_wp2_with fail
  refine HS.out.mono ?_
  rintro e w1 ⟨v, rfl, hv, hb0⟩
  obtain ⟨A1, c1, rfl, hc1, hc2, hrd, -⟩ := own_form hv
  have hlw : RWd w1 [.slice A1 m c1] ((List.range m).map fs) := lw_own hv (fun x hx => by
    obtain ⟨k, _, rfl⟩ := List.mem_map.1 hx
    exact HB.out k)
  clear hv hrd
  go_wp2_with fail
  go_loopw [8, 9] (fun v y wr => ∃ i : Nat, i ≤ m ∧ y = .int .i64 (i : Int) ∧ wr.ownsRow w1.heap.size 22 1 v i (U64 ((List.range i).map fun k => fs k % p)) ∧ Below w1.heap.size w1 wr) (fun _ y _ => m - (intOf y).toNat)
  case atStart => exact ⟨0, Nat.zero_le _, rfl, own_empty _ _ (Nat.le_refl _), (Below.refl _ _).alloc (Nat.le_refl _) _⟩
  case round =>
    obtain ⟨i, hi, rfl, hown, hb1⟩ := hrel
    by_cases hlt : i < m
    · have g2 : (i : Int) < (m : Int) := by omega
      have g3 : (0 : Int) ≤ (i : Int) := by omega
      obtain ⟨-, -, -, -, hrd⟩ := lw_at (kept_RWd _ _ _ _ hb1 hlw)
      have hlen : ((List.range m).map fs).length = m := by simp
      have hrd : Rd wr 1 A1 ((List.range m).map fs).length (U64 ((List.range m).map fs)) := by rw [hlen]; exact hrd
      obtain ⟨b, q, rfl, hbl, hc⟩ := lw_get hrd (j := i) (by rw [hlen]; exact hlt)
      have hgi : ((List.range m).map fs).getD i 0 = fs i := by simp [hlt]
      rw [hgi] at hc
      obtain ⟨fi, hfi⟩ : ∃ fi, fi = fs i := ⟨_, rfl⟩
      obtain ⟨z, hz⟩ : ∃ z, z = fi % p := ⟨_, rfl⟩
      have HRS := Lib.hid (show ((List.range i).map fun k => fs k % p) ++ [z] = (List.range (i + 1)).map fun k => fs k % p by rw [hz, hfi]; exact range_snoc (fun k => fs k % p) _)
      rw [← hfi] at hc
      have hp0 : (p : Int) ≠ 0 := by omega
      have hp1 : ((p : Int) == 0) = false := by rw [beq_eq_false_iff_ne]; omega
      have e1 : (fi : Int) % (p : Int) = (z : Int) := by rw [hz]; exact (Int.natCast_emod _ _).symm
      have e2 : (fi : Int).tmod (p : Int) = (z : Int) := by rw [Int.tmod_eq_emod_of_nonneg (by omega)]; exact e1
      clear hfi hz hgi hlen hrd
      have hs1 := hb1.size
      go_wp2_with (at_builtin; refine wpl_append rfl _ _ rfl el_w rfl (hown.alloc _) rfl (rd_one _ _ _) (one_U64 [z]) (by omega) (by simp; omega) ?_)
      intro v' wn hown' hgrow hblk
      have hal := (Below.refl wr.heap.size wr).alloc (Nat.le_refl _) (.cells #[.int .u64 (z : Int)] 22)
      have hB := lw_grow (hown.alloc _) hgrow (by simp; have := hb1.size; omega)
      replace hb1 := (below_on hb1 hal hb1.size).trans hB
      replace hown' : wn.ownsRow w1.heap.size 22 1 v' (i + 1) (U64 ((List.range (i + 1)).map fun k => fs k % p)) := lw_app (a := (List.range i).map fun k => fs k % p) (b := [z]) hown' HRS.out
      clear hown hgrow hblk hal hB hc hbl hs1
      go_wp2
      go_roundw
      case rel => exact ⟨i + 1, by omega, by go_num, hown', hb1⟩
      case measure => simp [intOf]; omega
    · obtain rfl : i = m := by omega
      go_wp2
      go_ret
      exact ⟨_, rfl, own_base hown hb0.size, below_chain hb0 hb1⟩
end Go.Proofs.Ytefnagiffllhbaa

/-! RFs -/
namespace Go.Proofs.Ytefnagiffllhbaa
open Go.RowKit

/-- The elements that are drawn from a seed. -/
def vecP (p s : Nat) (r : List Nat) (m : Nat) : List Nat := (List.range m).map (drawP p s r)
def rowsP (L : LayR) (s n : Nat) : List (List Nat) := (List.range n).map fun k => vecP L.p s [0, k] L.queries
theorem vecP_lt (p s : Nat) (r : List Nat) (m : Nat) (hp : 0 < p) (hp2 : p < 18446744073709551616) : ∀ x ∈ vecP p s r m, x < 18446744073709551616 := fun x hx => by
  obtain ⟨k, _, rfl⟩ := List.mem_map.1 hx
  exact Nat.lt_trans (Nat.mod_lt _ hp) hp2
theorem rowsP_next (L : LayR) (s k : Nat) : rowsP L s k ++ [vecP L.p s [0, k] L.queries] = rowsP L s (k + 1) := by simp [rowsP, List.range_succ]
theorem info_ww : (Try.prog.info? 28).map (fun i => (i.zero, i.size, i.bytes)) = some (some (.slice none 0 0), 1, 24) := by kernel_rfl
theorem el_ww : Elem Try.prog 37 28 1 24 (.slice none 0 0) := by
  obtain ⟨i0, hi, hz0, hz1, hz2⟩ := info_parts info_ww
  exact ⟨Try.underlying37, ⟨i0, hi, hz0, hz1, hz2⟩, rfl, by omega⟩
/-- ref25.squeeze at a list that lies in a block of its own. -/
theorem rsqx_any (p s : Nat) (r : List Nat) (m g : Nat) (w : World) (hp : 0 < p) (hp2 : p < 18446744073709551616) (kg : Blk w g 22 (U64 (s % bigQ :: r)).toArray) (hr : ∀ x ∈ r, x < 18446744073709551616) (hlen : r.length ≤ 1000) (hm : m ≤ 65536) :
    Calls Try.prog 31 #[.int .u64 p, .int .i64 (m : Int), .slice (some ⟨g, 0, none⟩) (r.length + 1) (r.length + 1)] w fun e w' => ∃ v, e = .returned v ∧ w'.ownsRow w.heap.size 22 1 v m (U64 (vecP p s r m)) ∧ Below w.heap.size w w' := by
  have := rsq25_any p (some ⟨g, 0, none⟩) (s % bigQ :: r).length (s % bigQ :: r).length m (s % bigQ :: r) w hp hp2 (lw_lit kg (fun z hz => by
    rcases List.mem_cons.1 hz with rfl | h
    · exact Nat.lt_trans (Nat.mod_lt _ (by decide)) (show bigQ < 18446744073709551616 by decide)
    · exact hr z h) (by simp [maxLen]; omega)) (by simp) (by simp; omega) hm
  exact this

theorem set5_blk {w : World} {g : Nat} {t : TypeId} {y0 y1 y2 y3 y4 : Value} (k : Blk w g t #[y0, y1, y2, y3, y4]) (x0 x1 x2 x3 x4 : Value) : Blk (((((w.setCell ⟨g, 0, none⟩ x0).setCell ⟨g, 1, none⟩ x1).setCell ⟨g, 2, none⟩ x2).setCell ⟨g, 3, none⟩ x3).setCell ⟨g, 4, none⟩ x4) g t #[x0, x1, x2, x3, x4] := by
  have h := (((((k.set_ 0 x0).set_ 1 x1).set_ 2 x2).set_ 3 x3).set_ 4 x4)
  simpa using h
theorem set5_grown {w : World} {g : Nat} (x0 x1 x2 x3 x4 : Value) : w.grownBy (((((w.setCell ⟨g, 0, none⟩ x0).setCell ⟨g, 1, none⟩ x1).setCell ⟨g, 2, none⟩ x2).setCell ⟨g, 3, none⟩ x3).setCell ⟨g, 4, none⟩ x4) (some g) := by
  iterate 5 refine grown_setCell' ?_ (.inl rfl) _
  exact grown_refl' w _

set_option maxRecDepth 100000 in
set_option maxHeartbeats 2000000 in
theorem rFromSeed_any (L : LayR) (s : Nat) (w : World) (hL : LayOk L) (hs : s < 18446744073709551616) :
    Calls Try.prog 11 #[.agg (layCs L), .int .u64 s] w fun e w' => ∃ v0 v1 v2 v3 v4, e = .returned (.agg #[v0, v1, v2, v3, v4]) ∧ RRows w' [v0] (rowsP L s (L.a + L.b + L.b + L.b)) ∧ RWd w' [v1] (vecP L.p s [1] L.k) ∧ RWd w' [v2] (vecP L.p s [2] (L.k + L.block - 2)) ∧ RWd w' [v3] (vecP L.p s [3] (L.block + 2 * L.queries - 1)) ∧ RWd w' [v4] (vecP bigQ s [4] L.n) ∧ Below w.heap.size w w' := by
  have hpp := okP_lt hL.p
  have HT := Lib.hid (fun w => rTotal_any L.p L.block L.queries L.k L.n L.secret L.rows L.a L.b L.b L.b w hL.a hL.b hL.b hL.b)
  have HS := Lib.hid (fun r m g w kg hr hlen hm => rsqx_any L.p s r m g w (by omega) hpp.2 kg hr hlen hm)
  have HS4 := Lib.hid (fun r m g w kg hr hlen hm => rsqx_any bigQ s r m g w (by decide) (by decide) kg hr hlen hm)
  have hT4 : L.a + L.b + L.b + L.b ≤ 400000 := by have := hL.a; have := hL.b; omega
  have hq2 := hL.q2
  generalize L.a + L.b + L.b + L.b = T at *
  obtain ⟨x, hx⟩ : ∃ x, x = s % bigQ := ⟨_, rfl⟩
  have e1 : (s : Int) % 18446744069414584321 = (x : Int) := by rw [hx]; unfold bigQ; omega
  have e2 : (s : Int).tmod 18446744069414584321 = (x : Int) := by rw [Int.tmod_eq_emod_of_nonneg (by omega)]; exact e1
  rw [← hx] at HS HS4
  clear hx
  unfold layCs at *
  go_enter Try.func11, Try.ntmps11
  go_upto_region 3 with fail
  obtain ⟨kl, kz, kc, hb0, hsz⟩ := boxes3 w 33 39 39 #[.int .u64 (L.p : Int), .int .i64 (L.block : Int), .int .i64 (L.queries : Int), .int .i64 (L.k : Int), .int .i64 (L.n : Int), .int .i64 (L.secret : Int), .int .i64 (L.rows : Int), .int .i64 (L.a : Int), .int .i64 (L.b : Int), .int .i64 (L.b : Int), .int .i64 (L.b : Int)] #[.slice none 0 0, .slice none 0 0, .slice none 0 0, .slice none 0 0, .slice none 0 0] #[.slice none 0 0, .slice none 0 0, .slice none 0 0, .slice none 0 0, .slice none 0 0]
  generalize ((w.alloc _).alloc _).alloc _ = w3 at kl kz kc hb0 hsz ⊢
  obtain ⟨N, hN⟩ : ∃ N, N = w3.heap.size := ⟨_, rfl⟩
  rw [← hN] at hsz
  have hNw : N ≤ w3.heap.size := by omega
  have hN2 : w.heap.size + 2 < N := by omega
  clear hN hsz
  go_wp2_with fail
  go_loopw [7] (fun y wr => ∃ (i : Nat) (v : Value) (cs : List Value), i ≤ T ∧ y = .int .i64 (i : Int) ∧ Blk wr w.heap.size 33 #[.int .u64 (L.p : Int), .int .i64 (L.block : Int), .int .i64 (L.queries : Int), .int .i64 (L.k : Int), .int .i64 (L.n : Int), .int .i64 (L.secret : Int), .int .i64 (L.rows : Int), .int .i64 (L.a : Int), .int .i64 (L.b : Int), .int .i64 (L.b : Int), .int .i64 (L.b : Int)] ∧ Blk wr (w.heap.size + 1) 39 #[.slice none 0 0, .slice none 0 0, .slice none 0 0, .slice none 0 0, .slice none 0 0] ∧ Blk wr (w.heap.size + 1 + 1) 39 #[v, .slice none 0 0, .slice none 0 0, .slice none 0 0, .slice none 0 0] ∧ wr.ownsRow N 28 1 v i cs ∧ GRows N wr v cs (rowsP L s i) ∧ Below w.heap.size w wr ∧ N ≤ wr.heap.size) (fun y _ => T - (intOf y).toNat)
  case atStart => exact ⟨0, .slice none 0 0, [], Nat.zero_le _, rfl, kl, kz, kc, ⟨rfl, .inl ⟨rfl, rfl⟩⟩, grows_nil _ _ _, hb0, hNw⟩
  case round =>
    clear kl kz kc hb0 hNw
    obtain ⟨i, v, cs, hi, rfl, kl, kz, kc, hown, hgr, hb0, hNw⟩ := hrel
    have cl := kl.cell
    have ll := kl.lt
    by_cases hlt : i < T
    · have g1 : (0 : Int) ≤ (i : Int) := by omega
      have g2 : (i : Int) < (T : Int) := by omega
      have ew : IntKind.u64.wrap (i : Int) = (i : Int) := by rw [IntKind.wrap_u64]; omega
      have HR := Lib.hid (rowsP_next L s i)
      go_wp2_with fail
      refine (HT.out _).mono ?_
      rintro e w4 ⟨rfl, hb4⟩
      replace kl := kl.below hb4 kl.lt
      replace kz := kz.below hb4 kz.lt
      replace kc := kc.below hb4 kc.lt
      replace hown := own_below hown hb4 (Nat.le_refl _)
      replace hgr := grows_below hgr hb4
      have hN4 : N ≤ w4.heap.size := by have := hb4.size; omega
      replace hb0 := below_chain hb0 hb4
      clear cl ll hb4 hNw
      have cl := kl.cell
      have cc := kc.cell
      have x1 : w.heap.size < N := by omega
      have x2 : w.heap.size + 1 + 1 < N := by omega
      have x3 : w.heap.size ≠ N := by omega
      have x4 : w.heap.size + 1 + 1 ≠ N := by omega
      go_upto_region 6 with fail
      refine wpV_begin (FromX N N) [9, 10, 11, 12, 14] [14] [0, 1, 2, 3, 4, 5, 6, 7, 8, 9, 10, 11, 12, 13, 14] (by kernel_rfl) (by kernel_rfl) ?_
      refine wpV_startK (fromX_moves N N) ?_
      intro Wc HWc hacc
      have hbW : Below w4.heap.size w4 Wc := by rw [HWc.out]; exact (Below.refl _ _).drew
      replace kl := kl.below hbW kl.lt
      replace kz := kz.below hbW kz.lt
      replace kc := kc.below hbW kc.lt
      replace hown := own_below hown hbW (Nat.le_refl _)
      replace hgr := grows_below hgr hbW
      have hNc : N ≤ Wc.heap.size := by have := hbW.size; omega
      replace hb0 := below_chain hb0 hbW
      clear HWc hbW
      repeat (first | (refine wpV_skip (fromX_moves N N) rfl rfl rfl (fun _ _ _ h => h) ?_ ; simp only [Act.put, List.setIfInBounds_toArray, List.set_cons_zero, List.set_cons_succ]) | (refine wpV_light (v := ?_) (fromX_moves N N) rfl rfl rfl (fun _ _ _ h => h) ?_ ?_ ; rotate_left ; (· (intro w' hR ; (first | have hcells := fromX_cellsD ((fromX_moves N N).trans _ _ _ hacc (hR rfl)) | skip) ; clear hR ; go_simp ; try with_reducible rfl)) ; simp only [Act.put, List.setIfInBounds_toArray, List.set_cons_zero, List.set_cons_succ]))
      refine wpV_heavy (fromX_moves N N) rfl rfl rfl ?_
      go_simp
      refine ⟨fun _ => fromX_below ((Below.refl _ _).alloc (Nat.le_refl _) _) hNc, ?_⟩
      have hal := (Below.refl Wc.heap.size Wc).alloc (Nat.le_refl _) (.cells #[.int .u64 (x : Int), .int .u64 0, .int .u64 (i : Int)] 22)
      have kA := Blk.new Wc 22 #[.int .u64 (x : Int), .int .u64 0, .int .u64 (i : Int)]
      replace kl := kl.below hal kl.lt
      replace kz := kz.below hal kz.lt
      replace kc := kc.below hal kc.lt
      replace hown := own_below hown hal (Nat.le_refl _)
      replace hgr := grows_below hgr hal
      have hN6 : N ≤ (Wc.alloc (.cells #[.int .u64 (x : Int), .int .u64 0, .int .u64 (i : Int)] 22)).heap.size := by have := hal.size; omega
      replace hb0 := below_chain hb0 hal
      try simp only [Act.put, List.setIfInBounds_toArray, List.set_cons_zero, List.set_cons_succ]
      generalize Wc.alloc _ = w6 at kl kz kc hown hgr hb0 kA hN6 ⊢
      generalize Wc.heap.size = gA at kA ⊢
      clear hal hNc hacc cl cc
      have hacc := (fromX_moves N N).refl w6
      have kA' : Blk w6 gA 22 (U64 (x :: [0, i])).toArray := by simpa [U64] using kA
      have HC := Lib.hid (HS.out [0, i] L.queries gA w6 kA' (by intro y hy; simp at hy; omega) (by simp) (by omega))
      clear kA kA'
      refine wpV_call (fromX_moves N N) rfl rfl rfl (fun _ => by go_simp <;> rfl) ((HC.out).mono ?_)
      rintro e w7 ⟨va, rfl, hva, hb7⟩
      refine ⟨_, rfl, fun _ => fromX_below hb7 hN6, ?_⟩
      replace hacc := (fromX_moves N N).trans _ _ _ hacc (fromX_below hb7 hN6)
      simp only [Act.put, List.setIfInBounds_toArray, List.set_cons_zero, List.set_cons_succ]
      obtain ⟨Av, cv, rfl, -⟩ := own_form hva
      have hvx := hva
      replace kl := kl.below hb7 kl.lt
      replace kz := kz.below hb7 kz.lt
      replace kc := kc.below hb7 kc.lt
      have hlv : ∀ q, v.ownBlock = some q → q < w6.heap.size := fun q e => (hown.lt q e).2
      replace hown := own_below hown hb7 (Nat.le_refl _)
      replace hgr := grows_below hgr hb7
      have hx7 := rwx_own (N := N) (gb := v.ownBlock) hvx (vecP_lt _ _ _ _ (by omega) hpp.2) hN6 hlv
      have hN7 : N ≤ w7.heap.size := by have := hb7.size; omega
      replace hb0 := below_chain hb0 hb7
      clear hva hvx hlv hb7 hN6 hacc HC
      have hacc := (fromX_moves N N).refl w7
      refine wpV_heavy (fromX_moves N N) rfl rfl rfl ?_
      go_simp
      refine ⟨fun _ => fromX_below ((Below.refl _ _).alloc (Nat.le_refl _) _) hN7, ?_⟩
      have hal := (Below.refl w7.heap.size w7).alloc (Nat.le_refl _) (.cells #[.slice Av L.queries cv] 28)
      have hrd := rd_one w7 (.slice Av L.queries cv) 28
      replace kl := kl.below hal kl.lt
      replace kz := kz.below hal kz.lt
      replace kc := kc.below hal kc.lt
      replace hown := own_below hown hal (Nat.le_refl _)
      replace hgr := grows_below hgr hal
      replace hx7 := rwx_keep hx7 hal.size (fun b _ h2 _ => hal.block b h2)
      have hN8 : N ≤ (w7.alloc (.cells #[.slice Av L.queries cv] 28)).heap.size := by have := hal.size; omega
      replace hb0 := below_chain hb0 hal
      try simp only [Act.put, List.setIfInBounds_toArray, List.set_cons_zero, List.set_cons_succ]
      generalize w7.alloc _ = w8 at kl kz kc hown hgr hx7 hb0 hrd hN8 ⊢
      generalize w7.heap.size = g7 at hrd ⊢
      clear hal hN7 hacc
      have hacc := (fromX_moves N N).refl w8
      have cc := kc.cell
      repeat (first | (refine wpV_skip (fromX_moves N N) rfl rfl rfl (fun _ _ _ h => h) ?_ ; simp only [Act.put, List.setIfInBounds_toArray, List.set_cons_zero, List.set_cons_succ]) | (refine wpV_light (v := ?_) (fromX_moves N N) rfl rfl rfl (fun _ _ _ h => h) ?_ ?_ ; rotate_left ; (· (intro w' hR ; (first | have hcells := fromX_cellsD ((fromX_moves N N).trans _ _ _ hacc (hR rfl)) | skip) ; clear hR ; go_simp ; try with_reducible rfl)) ; simp only [Act.put, List.setIfInBounds_toArray, List.set_cons_zero, List.set_cons_succ]))
      refine wpV_heavy (fromX_moves N N) rfl rfl rfl ?_
      refine wp_append_rd _ _ rfl el_ww rfl hown rfl hrd (by intro u hu; simp at hu; subst hu; rfl) (by omega) hN8 ?_
      intro v' wn hown' hgrow hblk
      have hvb : ∀ q, v.ownBlock = some q → N ≤ q := fun q e => (hown.lt q e).1
      refine ⟨fun _ => fromX_row hgrow hN8 hvb, ?_⟩
      have hgn := grows_app hgr hx7 hgrow hblk
      rw [HR.out] at hgn
      replace kl := kl.grown hgrow (fun e => by first | (have := hvb _ e; omega) | (have := hvb _ e.symm; omega))
      replace kz := kz.grown hgrow (fun e => by first | (have := hvb _ e; omega) | (have := hvb _ e.symm; omega))
      replace kc := kc.grown hgrow (fun e => by first | (have := hvb _ e; omega) | (have := hvb _ e.symm; omega))
      replace hb0 := hb0.trans ((lw_grow hown hgrow hN8).mono (by omega))
      have hNn : N ≤ wn.heap.size := by have := hgrow.size; omega
      obtain ⟨Aw, cw, rfl, -⟩ := own_form hown'
      clear hown hgr hx7 hgrow hblk hvb hN8 hrd cc hacc
      have hacc := (fromX_moves N N).refl wn
      have cc := kc.cell
      have fc := kc.frozen
      try simp only [Act.put, List.setIfInBounds_toArray, List.set_cons_zero, List.set_cons_succ]
      repeat (first | (refine wpV_skip (fromX_moves N N) rfl rfl rfl (fun _ _ _ h => h) ?_ ; simp only [Act.put, List.setIfInBounds_toArray, List.set_cons_zero, List.set_cons_succ]) | (refine wpV_light (v := ?_) (fromX_moves N N) rfl rfl rfl (fun _ _ _ h => h) ?_ ?_ ; rotate_left ; (· (intro w' hR ; (first | have hcells := fromX_cellsD ((fromX_moves N N).trans _ _ _ hacc (hR rfl)) | skip) ; clear hR ; go_simp ; try with_reducible rfl)) ; simp only [Act.put, List.setIfInBounds_toArray, List.set_cons_zero, List.set_cons_succ]))
      refine wpV_heavy (fromX_moves N N) rfl rfl rfl ?_
      go_simp
      refine ⟨fun h => Bool.noConfusion h, ?_⟩
      have hsg : wn.grownBy (wn.setCell ⟨w.heap.size + 1 + 1, 0, none⟩ (.slice Aw (i + 1) cw)) (some (w.heap.size + 1 + 1)) := grown_setCell' (p := ⟨w.heap.size + 1 + 1, 0, none⟩) (grown_refl' wn _) (.inl rfl) _
      replace kc := kc.set_ 0 (.slice Aw (i + 1) cw)
      simp at kc
      replace kl := kl.grown hsg (fun e => by have := Option.some.inj e; omega)
      replace kz := kz.grown hsg (fun e => by have := Option.some.inj e; omega)
      have hown2 := own_stay hown' hsg (by omega)
      replace hgn := grows_only hgn hsg (by omega)
      replace hb0 := hb0.trans (below_of_only hsg hb0.size (by omega))
      have hNz := Nat.le_trans hNn hsg.size
      clear hown' hsg cc fc hNn hacc
      generalize wn.setCell _ _ = wz at kl kz kc hown2 hgn hb0 hNz ⊢
      have hacc := (fromX_moves N N).refl wz
      repeat (first | (refine wpV_skip (fromX_moves N N) rfl rfl rfl (fun _ _ _ h => h) ?_ ; simp only [Act.put, List.setIfInBounds_toArray, List.set_cons_zero, List.set_cons_succ]) | (refine wpV_light (v := ?_) (fromX_moves N N) rfl rfl rfl (fun _ _ _ h => h) ?_ ?_ ; rotate_left ; (· (intro w' hR ; (first | have hcells := fromX_cellsD ((fromX_moves N N).trans _ _ _ hacc (hR rfl)) | skip) ; clear hR ; go_simp ; try with_reducible rfl)) ; simp only [Act.put, List.setIfInBounds_toArray, List.set_cons_zero, List.set_cons_succ]))
      refine wpV_done ?_
      go_wp2
      go_roundw
      case rel => exact ⟨i + 1, .slice Aw (i + 1) cw, _, by omega, by go_num, kl, kz, kc, hown2, hgn, hb0, hNz⟩
      case measure => simp [intOf]; omega
    · obtain rfl : i = T := by omega
      clear ll
      have ll := kl.lt
      have g2 : ¬ ((i : Int) < (i : Int)) := by omega
      go_wp2_with fail
      refine (HT.out _).mono ?_
      rintro e w4 ⟨rfl, hb4⟩
      replace kl := kl.below hb4 kl.lt
      replace kz := kz.below hb4 kz.lt
      replace kc := kc.below hb4 kc.lt
      replace hown := own_below hown hb4 (Nat.le_refl _)
      replace hgr := grows_below hgr hb4
      replace hb0 := below_chain hb0 hb4
      replace hNw := Nat.le_trans hNw hb4.size
      clear cl ll hb4
      have q1 := hL.b1
      have q2 := hL.b2
      have q3 := hL.q1
      have q5 := hL.k
      have q6 := hL.n2
      have w1 : IntKind.i64.wrap ((L.k : Int) + (L.block : Int)) = (L.k : Int) + (L.block : Int) := wr_i64 _ (by omega) (by omega)
      obtain ⟨m2, hm2⟩ : ∃ m2, m2 = L.k + L.block - 2 := ⟨_, rfl⟩
      obtain ⟨m3, hm3⟩ : ∃ m3, m3 = L.block + 2 * L.queries - 1 := ⟨_, rfl⟩
      have w2 : IntKind.i64.wrap ((L.k : Int) + (L.block : Int) - 2) = (m2 : Int) := by rw [wr_i64 _ (by omega) (by omega)]; omega
      have w5 : IntKind.i64.wrap (2 * (L.queries : Int)) = 2 * (L.queries : Int) := wr_i64 _ (by omega) (by omega)
      have w6 : IntKind.i64.wrap ((L.block : Int) + 2 * (L.queries : Int)) = (L.block : Int) + 2 * (L.queries : Int) := wr_i64 _ (by omega) (by omega)
      have w7 : IntKind.i64.wrap ((L.block : Int) + 2 * (L.queries : Int) - 1) = (m3 : Int) := by rw [wr_i64 _ (by omega) (by omega)]; omega
      have u1 : L.k ≤ 65536 := by omega
      have u2 : m2 ≤ 65536 := by omega
      have u3 : m3 ≤ 65536 := by omega
      have u4 : L.n ≤ 65536 := by omega
      have HM2 := Lib.hid hm2
      have HM3 := Lib.hid hm3
      clear hm2 hm3 q1 q2 q3 q5 q6 hlt hi
      have cl := kl.cell
      go_wp2_with fail
      have hal := (Below.refl w4.heap.size w4).alloc (Nat.le_refl _) (.cells #[.int .u64 (x : Int), .int .u64 1] 22)
      have kA := Blk.new w4 22 #[.int .u64 (x : Int), .int .u64 1]
      replace kl := kl.below hal kl.lt
      replace kz := kz.below hal kz.lt
      replace kc := kc.below hal kc.lt
      replace hgr := grows_below hgr hal
      replace hown := own_below hown hal (Nat.le_refl _)
      replace hb0 := below_chain hb0 hal
      replace hNw := Nat.le_trans hNw hal.size
      clear cl hal
      generalize w4.alloc _ = a1 at kl kz kc hgr hown  hb0 hNw kA ⊢
      generalize w4.heap.size = gA1 at kA ⊢
      have HC := Lib.hid (HS.out [1] L.k gA1 a1 (by simpa [U64] using kA) (by intro y hy; simp at hy; omega) (by simp) u1)
      clear kA
      skip
      refine HC.out.mono ?_
      rintro e b1 ⟨v1, rfl, hv, hb⟩
      have o1 := own_base hv hNw
      replace kl := kl.below hb kl.lt
      replace kz := kz.below hb kz.lt
      replace kc := kc.below hb kc.lt
      replace hgr := grows_below hgr hb
      replace hown := own_below hown hb (Nat.le_refl _)
      replace hb0 := below_chain hb0 hb
      replace hNw := Nat.le_trans hNw hb.size
      clear hv hb HC
      obtain ⟨A1, c1, rfl, -⟩ := own_form o1
      have cc := kc.cell
      have fc := kc.frozen
      go_upto_region 8 with fail
      have hsg : b1.grownBy (b1.setCell ⟨w.heap.size + 1 + 1, 1, none⟩ (.slice A1 L.k c1)) (some (w.heap.size + 1 + 1)) := grown_setCell' (p := ⟨w.heap.size + 1 + 1, 1, none⟩) (grown_refl' b1 _) (.inl rfl) _
      replace kc := kc.set_ 1 (.slice A1 L.k c1)
      simp at kc
      replace kl := kl.grown hsg (fun e => by have := Option.some.inj e; omega)
      replace kz := kz.grown hsg (fun e => by have := Option.some.inj e; omega)
      replace hgr := grows_only hgr hsg (by omega)
      replace hown := own_stay hown hsg (by omega)
      replace o1 := own_stay o1 hsg (by omega)
      replace hb0 := hb0.trans (below_of_only hsg hb0.size (by omega))
      replace hNw := Nat.le_trans hNw hsg.size
      clear hsg cc fc
      generalize b1.setCell _ _ = d1 at kl kz kc hgr hown o1 hb0 hNw ⊢
      have cl := kl.cell
      go_wp2_with fail
      have hal := (Below.refl d1.heap.size d1).alloc (Nat.le_refl _) (.cells #[.int .u64 (x : Int), .int .u64 2] 22)
      have kA := Blk.new d1 22 #[.int .u64 (x : Int), .int .u64 2]
      replace kl := kl.below hal kl.lt
      replace kz := kz.below hal kz.lt
      replace kc := kc.below hal kc.lt
      replace hgr := grows_below hgr hal
      replace hown := own_below hown hal (Nat.le_refl _)
      replace o1 := own_below o1 hal (Nat.le_refl _)
      replace hb0 := below_chain hb0 hal
      replace hNw := Nat.le_trans hNw hal.size
      clear cl hal
      generalize d1.alloc _ = a2 at kl kz kc hgr hown o1 hb0 hNw kA ⊢
      generalize d1.heap.size = gA2 at kA ⊢
      have HC := Lib.hid (HS.out [2] m2 gA2 a2 (by simpa [U64] using kA) (by intro y hy; simp at hy; omega) (by simp) u2)
      clear kA
      skip
      refine HC.out.mono ?_
      rintro e b2 ⟨v2, rfl, hv, hb⟩
      have o2 := own_base hv hNw
      replace kl := kl.below hb kl.lt
      replace kz := kz.below hb kz.lt
      replace kc := kc.below hb kc.lt
      replace hgr := grows_below hgr hb
      replace hown := own_below hown hb (Nat.le_refl _)
      replace o1 := own_below o1 hb (Nat.le_refl _)
      replace hb0 := below_chain hb0 hb
      replace hNw := Nat.le_trans hNw hb.size
      clear hv hb HC
      obtain ⟨A2, c2, rfl, -⟩ := own_form o2
      have cc := kc.cell
      have fc := kc.frozen
      go_upto_region 9 with fail
      have hsg : b2.grownBy (b2.setCell ⟨w.heap.size + 1 + 1, 2, none⟩ (.slice A2 m2 c2)) (some (w.heap.size + 1 + 1)) := grown_setCell' (p := ⟨w.heap.size + 1 + 1, 2, none⟩) (grown_refl' b2 _) (.inl rfl) _
      replace kc := kc.set_ 2 (.slice A2 m2 c2)
      simp at kc
      replace kl := kl.grown hsg (fun e => by have := Option.some.inj e; omega)
      replace kz := kz.grown hsg (fun e => by have := Option.some.inj e; omega)
      replace hgr := grows_only hgr hsg (by omega)
      replace hown := own_stay hown hsg (by omega)
      replace o1 := own_stay o1 hsg (by omega)
      replace o2 := own_stay o2 hsg (by omega)
      replace hb0 := hb0.trans (below_of_only hsg hb0.size (by omega))
      replace hNw := Nat.le_trans hNw hsg.size
      clear hsg cc fc
      generalize b2.setCell _ _ = d2 at kl kz kc hgr hown o1 o2 hb0 hNw ⊢
      have cl := kl.cell
      go_wp2_with fail
      have hal := (Below.refl d2.heap.size d2).alloc (Nat.le_refl _) (.cells #[.int .u64 (x : Int), .int .u64 3] 22)
      have kA := Blk.new d2 22 #[.int .u64 (x : Int), .int .u64 3]
      replace kl := kl.below hal kl.lt
      replace kz := kz.below hal kz.lt
      replace kc := kc.below hal kc.lt
      replace hgr := grows_below hgr hal
      replace hown := own_below hown hal (Nat.le_refl _)
      replace o1 := own_below o1 hal (Nat.le_refl _)
      replace o2 := own_below o2 hal (Nat.le_refl _)
      replace hb0 := below_chain hb0 hal
      replace hNw := Nat.le_trans hNw hal.size
      clear cl hal
      generalize d2.alloc _ = a3 at kl kz kc hgr hown o1 o2 hb0 hNw kA ⊢
      generalize d2.heap.size = gA3 at kA ⊢
      have HC := Lib.hid (HS.out [3] m3 gA3 a3 (by simpa [U64] using kA) (by intro y hy; simp at hy; omega) (by simp) u3)
      clear kA
      skip
      refine HC.out.mono ?_
      rintro e b3 ⟨v3, rfl, hv, hb⟩
      have o3 := own_base hv hNw
      replace kl := kl.below hb kl.lt
      replace kz := kz.below hb kz.lt
      replace kc := kc.below hb kc.lt
      replace hgr := grows_below hgr hb
      replace hown := own_below hown hb (Nat.le_refl _)
      replace o1 := own_below o1 hb (Nat.le_refl _)
      replace o2 := own_below o2 hb (Nat.le_refl _)
      replace hb0 := below_chain hb0 hb
      replace hNw := Nat.le_trans hNw hb.size
      clear hv hb HC
      obtain ⟨A3, c3, rfl, -⟩ := own_form o3
      have cc := kc.cell
      have fc := kc.frozen
      go_upto_region 10 with fail
      have hsg : b3.grownBy (b3.setCell ⟨w.heap.size + 1 + 1, 3, none⟩ (.slice A3 m3 c3)) (some (w.heap.size + 1 + 1)) := grown_setCell' (p := ⟨w.heap.size + 1 + 1, 3, none⟩) (grown_refl' b3 _) (.inl rfl) _
      replace kc := kc.set_ 3 (.slice A3 m3 c3)
      simp at kc
      replace kl := kl.grown hsg (fun e => by have := Option.some.inj e; omega)
      replace kz := kz.grown hsg (fun e => by have := Option.some.inj e; omega)
      replace hgr := grows_only hgr hsg (by omega)
      replace hown := own_stay hown hsg (by omega)
      replace o1 := own_stay o1 hsg (by omega)
      replace o2 := own_stay o2 hsg (by omega)
      replace o3 := own_stay o3 hsg (by omega)
      replace hb0 := hb0.trans (below_of_only hsg hb0.size (by omega))
      replace hNw := Nat.le_trans hNw hsg.size
      clear hsg cc fc
      generalize b3.setCell _ _ = d3 at kl kz kc hgr hown o1 o2 o3 hb0 hNw ⊢
      have cl := kl.cell
      go_wp2_with fail
      have hal := (Below.refl d3.heap.size d3).alloc (Nat.le_refl _) (.cells #[.int .u64 (x : Int), .int .u64 4] 22)
      have kA := Blk.new d3 22 #[.int .u64 (x : Int), .int .u64 4]
      replace kl := kl.below hal kl.lt
      replace kz := kz.below hal kz.lt
      replace kc := kc.below hal kc.lt
      replace hgr := grows_below hgr hal
      replace hown := own_below hown hal (Nat.le_refl _)
      replace o1 := own_below o1 hal (Nat.le_refl _)
      replace o2 := own_below o2 hal (Nat.le_refl _)
      replace o3 := own_below o3 hal (Nat.le_refl _)
      replace hb0 := below_chain hb0 hal
      replace hNw := Nat.le_trans hNw hal.size
      clear cl hal
      generalize d3.alloc _ = a4 at kl kz kc hgr hown o1 o2 o3 hb0 hNw kA ⊢
      generalize d3.heap.size = gA4 at kA ⊢
      have HC := Lib.hid (HS4.out [4] L.n gA4 a4 (by simpa [U64] using kA) (by intro y hy; simp at hy; omega) (by simp) u4)
      clear kA
      unfold bigQ at HC
      refine HC.out.mono ?_
      rintro e b4 ⟨v4, rfl, hv, hb⟩
      have o4 := own_base hv hNw
      replace kl := kl.below hb kl.lt
      replace kz := kz.below hb kz.lt
      replace kc := kc.below hb kc.lt
      replace hgr := grows_below hgr hb
      replace hown := own_below hown hb (Nat.le_refl _)
      replace o1 := own_below o1 hb (Nat.le_refl _)
      replace o2 := own_below o2 hb (Nat.le_refl _)
      replace o3 := own_below o3 hb (Nat.le_refl _)
      replace hb0 := below_chain hb0 hb
      replace hNw := Nat.le_trans hNw hb.size
      clear hv hb HC
      obtain ⟨A4, c4, rfl, -⟩ := own_form o4
      have cc := kc.cell
      have fc := kc.frozen
      go_upto_region 11 with fail
      have hsg : b4.grownBy (b4.setCell ⟨w.heap.size + 1 + 1, 4, none⟩ (.slice A4 L.n c4)) (some (w.heap.size + 1 + 1)) := grown_setCell' (p := ⟨w.heap.size + 1 + 1, 4, none⟩) (grown_refl' b4 _) (.inl rfl) _
      replace kc := kc.set_ 4 (.slice A4 L.n c4)
      simp at kc
      replace kl := kl.grown hsg (fun e => by have := Option.some.inj e; omega)
      replace kz := kz.grown hsg (fun e => by have := Option.some.inj e; omega)
      replace hgr := grows_only hgr hsg (by omega)
      replace hown := own_stay hown hsg (by omega)
      replace o1 := own_stay o1 hsg (by omega)
      replace o2 := own_stay o2 hsg (by omega)
      replace o3 := own_stay o3 hsg (by omega)
      replace o4 := own_stay o4 hsg (by omega)
      replace hb0 := hb0.trans (below_of_only hsg hb0.size (by omega))
      replace hNw := Nat.le_trans hNw hsg.size
      clear hsg cc fc
      generalize b4.setCell _ _ = d4 at kl kz kc hgr hown o1 o2 o3 o4 hb0 hNw ⊢
      obtain ⟨Av, cv, rfl, -⟩ := own_form hown
      have cc := kc.cell
      have fc := kc.frozen
      have zc := kz.cell
      have zf := kz.frozen
      go_wp2_with fail
      have hsg := set5_grown (w := d4) (g := w.heap.size + 1) (.slice Av i cv) (.slice A1 L.k c1) (.slice A2 m2 c2) (.slice A3 m3 c3) (.slice A4 L.n c4)
      replace kz := set5_blk kz (.slice Av i cv) (.slice A1 L.k c1) (.slice A2 m2 c2) (.slice A3 m3 c3) (.slice A4 L.n c4)
      replace hgr := grows_only hgr hsg (by omega)
      replace hown := own_stay hown hsg (by omega)
      replace o1 := own_stay o1 hsg (by omega)
      replace o2 := own_stay o2 hsg (by omega)
      replace o3 := own_stay o3 hsg (by omega)
      replace o4 := own_stay o4 hsg (by omega)
      replace hb0 := hb0.trans (below_of_only hsg hb0.size (by omega))
      clear kl kc cc fc zc zf hsg hNw
      generalize ((((d4.setCell _ _).setCell _ _).setCell _ _).setCell _ _).setCell _ _ = d5 at kz hgr hown o1 o2 o3 o4 hb0 ⊢
      have zc := kz.cell
      refine bodyPost_ret (v := .agg #[.slice Av i cv, .slice A1 L.k c1, .slice A2 m2 c2, .slice A3 m3 c3, .slice A4 L.n c4]) (by simp [results, Try.results11, go_sem, zc]) rfl ?_
      obtain rfl := HM2.out
      obtain rfl := HM3.out
      have hp0 : 0 < L.p := by omega
      exact ⟨_, _, _, _, _, rfl, grows_done hgr hown, lw_own o1 (vecP_lt _ _ _ _ hp0 hpp.2), lw_own o2 (vecP_lt _ _ _ _ hp0 hpp.2), lw_own o3 (vecP_lt _ _ _ _ hp0 hpp.2), lw_own o4 (vecP_lt _ _ _ _ (by decide) (by decide)), hb0⟩
end Go.Proofs.Ytefnagiffllhbaa

/-! ColA -/
namespace Go.Proofs.Ytefnagiffllhbaa
open Go.RowKit

def fillV (n : Nat) (f : Nat → Value) : Array Value := ((List.range n).map f).toArray
theorem fillV_get {n k : Nat} (f : Nat → Value) (h : k < n) : (fillV n f)[k]? = some (f k) := by simp [fillV, h]
theorem fillV_same {n : Nat} {f g : Nat → Value} (h : ∀ i, i < n → f i = g i) : fillV n f = fillV n g := by
  unfold fillV
  congr 1
  exact List.map_congr_left fun i hi => h i (List.mem_range.1 hi)
theorem fillV_set {n k : Nat} (f : Nat → Value) (v : Value) : (fillV n f).setIfInBounds k v = fillV n (fun i => if i = k then v else f i) := by
  apply Array.ext
  · simp [fillV]
  · intro i h1 h2
    simp [fillV] at h1 h2
    rw [Array.getElem_setIfInBounds (by simpa [fillV] using h1)]
    simp only [fillV]
    split
    · subst_vars; simp
    · rename_i hne
      simp [show ¬ i = k from fun e => hne e.symm]
theorem made_nilV (n : Nat) : madeCells (Value.slice none 0 0).cells (n * 1) = fillV n fun _ => .slice none 0 0 := by
  apply Array.toList_inj.1
  rw [show (Value.slice none 0 0).cells = #[.slice none 0 0] from rfl, toList_madeCells_one]
  exact List.ext_getElem (by simp [fillV]) fun i h1 h2 => by simp [fillV]
theorem mk_rows (n : Nat) (hn : n ≤ 1000000) (w : World) :
    (Instr.makeSlice 37 (.int .i64 (n : Int)) (.int .i64 (n : Int))).run Try.prog w = .ok (.slice (some ⟨w.heap.size, 0, none⟩) n n) (w.alloc (.cells (fillV n fun _ => .slice none 0 0) 28)) := by
  have := mk_n (P := Try.prog) el_ww n (by omega) (by omega) w
  rw [made_nilV] at this
  exact this
theorem vanP_lt {p b : Nat} (hp : 0 < p) (l : List Nat) : ∀ i k, vanP p b l i k < p
  | 0, _ => hp
  | i + 1, k => by
    simp only [vanP, putF]
    split
    · exact Nat.mod_lt _ hp
    · split
      · exact Nat.mod_lt _ hp
      · exact vanP_lt hp l i k
theorem mrowP_lt {L : LayR} (hp : 0 < L.p) (msg masks : List Nat) (k : Nat) : mrowP L msg masks k < L.p := by
  unfold mrowP plusP
  split
  · exact Nat.mod_lt _ hp
  · exact vanP_lt hp _ _ _
theorem linA_lt {p b : Nat} (hp : 0 < p) (l : List Nat) : ∀ k, linA p b l k < p
  | 0 => hp
  | _ + 1 => Nat.mod_lt _ hp
/-- The polynomials of Columns. -/
def polyRow (L : LayR) (m r : List (List Nat)) (k : Nat) : List Nat := (List.range (L.block + (r.getD k []).length)).map (mrowP L (m.getD k []) (r.getD k []))
def polyRows (L : LayR) (m r : List (List Nat)) (n : Nat) : List (List Nat) := (List.range n).map (polyRow L m r)
theorem polyRows_next (L : LayR) (m r : List (List Nat)) (k : Nat) : polyRows L m r k ++ [polyRow L m r k] = polyRows L m r (k + 1) := by simp [polyRows, List.range_succ]
def quadP (L : LayR) (q : List Nat) : List Nat := (List.range (L.block + q.length)).map (vanP L.p L.block q q.length)
def polysP (L : LayR) (m r : List (List Nat)) (c l q : List Nat) : List (List Nat) := polyRows L m r m.length ++ [c, mlinP L l, quadP L q]
/-- The value of column i at row j. -/
def colV (L : LayR) (ps : List (List Nat)) (i j : Nat) : Nat := evaP L.p L.n L.n.log2 (ps.getD j []) (rowOf L.p).1 i
/-- Rows of a list, three more of which come by one append. -/
theorem grows_app3 {N : Nat} {w w' : World} {v v' x y z : Value} {cs : List Value} {l : List (List Nat)} {a b c : List Nat} (h : GRows N w v cs l) (hx : RWx N v.ownBlock w x a) (hy : RWx N v.ownBlock w y b) (hz : RWx N v.ownBlock w z c)
    (hg : w.grownBy w' v.ownBlock) (hv : v'.ownBlock = v.ownBlock ∨ v'.ownBlock = some w.heap.size) : GRows N w' v' (cs ++ [x, y, z]) (l ++ [a, b, c]) := by
  have key : ∀ {z : Value} {m : List Nat}, RWx N v.ownBlock w z m → RWx N v'.ownBlock w' z m := fun {z m} hz u hu => by
    refine hz u fun b h1 h2 h3 => ?_
    refine (hu b h1 (by have := hg.size; omega) ?_).trans (hg.block b h2 (fun e => h3 e))
    rcases hv with e | e
    · rw [e]; exact h3
    · rw [e]; intro e2; have := Option.some.inj e2; omega
  refine ⟨by simp [h.1], fun i h1 h2 => ?_⟩
  by_cases hi : i < cs.length
  · rw [List.getElem_append_left hi, List.getElem_append_left (by have := h.1; omega)]
    exact key (h.2 i hi _)
  · have e0 := h.1
    have h1' : i < cs.length + 3 := by simpa using h1
    rw [List.getElem_append_right (by omega), List.getElem_append_right (by omega)]
    have : i - cs.length = 0 ∨ i - cs.length = 1 ∨ i - cs.length = 2 := by omega
    have e1 : i - l.length = i - cs.length := by omega
    simp only [e1]
    rcases this with e | e | e <;> simp only [e]
    · exact key hx
    · exact key hy
    · exact key hz
theorem rd_three (w : World) (x y z : Value) (t : TypeId) : Rd (w.alloc (.cells #[x, y, z] t)) 1 (some ⟨w.heap.size, 0, none⟩) 3 [x, y, z] := by
  refine ⟨rfl, fun _ => ⟨_, rfl, fun j u hj => ?_⟩⟩
  rw [add_none, Nat.zero_add, (Blk.new w t #[x, y, z]).cell]
  simpa using hj
/-- A row that lies in a block of its own, made whole. -/
theorem rwx_fill {N g n : Nat} {gb : Option Nat} {w : World} {t : TypeId} {f : Nat → Nat} (h : Blk w g t (fillC n f)) (hf : ∀ i, i < n → f i < 18446744073709551616) (hn : n ≤ maxLen) (hN : N ≤ g) (hg : some g ≠ gb) : RWx N gb w (.slice (some ⟨g, 0, none⟩) n n) ((List.range n).map f) := by
  rw [fill_U64] at h
  exact rwx_blkn h (by simp) (fun x hx => by
    obtain ⟨i, hi, rfl⟩ := List.mem_map.1 hx
    exact hf i (List.mem_range.1 hi)) hn hN hg
theorem layLenN {L : LayR} (h : LayOk L) : LenOk L.p L.n ∧ L.n = 2 ^ L.n.log2 := by
  obtain ⟨j, hj⟩ := h.n
  refine ⟨⟨by have := h.nk; have := h.k; have := h.b1; omega, by have := h.n2; omega, ⟨j, hj⟩, h.nd⟩, ?_⟩
  rw [hj, Nat.log2_two_pow]
theorem fftP_lt {p : Nat} (hp : 0 < p) : ∀ (j : Nat) (a : Nat → Nat) (w k : Nat), (∀ i, a i < p) → fftP p j a w k < p
  | 0, _, _, k, h => h k
  | j + 1, a, w, k, _ => by
    simp only [fftP]
    split <;> exact Nat.mod_lt _ hp
theorem accP_lt {p n : Nat} (hp : 0 < p) (l : List Nat) (s : Nat) : ∀ i k, accP p n l s i k < p
  | 0, _ => hp
  | i + 1, k => by
    simp only [accP, putF]
    split
    · exact Nat.mod_lt _ hp
    · exact accP_lt hp l s i k
theorem evaP_lt {p : Nat} (hp : 0 < p) (n j : Nat) (l : List Nat) (s k : Nat) : evaP p n j l s k < p := fftP_lt hp _ _ _ _ (accP_lt hp _ _ _)
theorem gen_mod {p : Nat} (h : okP p = true) : (rowOf p).1 % p ≠ 0 := by
  rcases okP_cases h with rfl | rfl | rfl | rfl | rfl | rfl | rfl <;> decide
theorem polysP_len (L : LayR) (m r : List (List Nat)) (c l q : List Nat) : (polysP L m r c l q).length = m.length + 3 := by simp [polysP, polyRows]
theorem polysP_short {L : LayR} {m r : List (List Nat)} {c l q : List Nat} (hb : L.block ≤ 256) (hr : ∀ x ∈ r, x.length ≤ 2000) (h1 : c.length ≤ 2000) (h2 : l.length ≤ 2000) (h3 : q.length ≤ 2000) : ∀ x ∈ polysP L m r c l q, x.length ≤ 8192 := by
  intro x hx
  unfold polysP at hx
  rcases List.mem_append.1 hx with hx | hx
  · obtain ⟨k, -, rfl⟩ := List.mem_map.1 hx
    simp only [polyRow, List.length_map, List.length_range]
    have : (r.getD k []).length ≤ 2000 := by
      rw [List.getD_eq_getElem?_getD]
      cases h : r[k]? with
      | none => simp
      | some y => exact hr y (List.mem_of_getElem? h)
    omega
  · simp at hx
    rcases hx with rfl | rfl | rfl
    · omega
    · simp [mlinP]; omega
    · simp [quadP]; omega
end Go.Proofs.Ytefnagiffllhbaa

/-! ColB -/
namespace Go.Proofs.Ytefnagiffllhbaa
open Go.RowKit

theorem mk_rows0 (n : Nat) (hn : n ≤ 1000000) (w : World) :
    (Instr.makeSlice 37 (.int .i64 0) (.int .i64 (n : Int))).run Try.prog w = .ok (.slice (some ⟨w.heap.size, 0, none⟩) 0 n) (w.alloc (.cells (fillV n fun _ => .slice none 0 0) 28)) := by
  obtain ⟨ht, ⟨i, hi, hz, hs, hby⟩, hzs, hsz⟩ := el_ww
  have := run_make (P := Try.prog) w 37 28 i _ ht hi hz .i64 .i64 0 (n : Int) (by omega) (by omega) (by rw [hby]; omega) (by omega)
  rw [Int.toNat_natCast, hs, made_nilV] at this
  exact this
theorem own_rows0 (n base : Nat) (hn : n ≤ 1000000) (w : World) (hb : base ≤ w.heap.size) : (w.alloc (.cells (fillV n fun _ => .slice none 0 0) 28)).ownsRow base 28 1 (.slice (some ⟨w.heap.size, 0, none⟩) 0 n) 0 [] :=
  World.ownsRow_made w _ n hb (by simp [maxLen]; omega) (by simp [fillV])

set_option maxRecDepth 100000 in
set_option maxHeartbeats 2000000 in
theorem mColumns_any (L : LayR) (A0 A1 A2 A3 A4 AM : Option Addr) (n0 n1 n2 n3 n4 nM c0 c1 c2 c3 c4 cM : Nat) (m r : List (List Nat)) (co li qu : List Nat) (w : World) (hL : LayOk L)
    (hm : RRows w [.slice AM nM cM] m) (hr : RRows w [.slice A0 n0 c0] r) (hc : RWd w [.slice A1 n1 c1] co) (hl : RWd w [.slice A2 n2 c2] li) (hq : RWd w [.slice A3 n3 c3] qu)
    (hlen : m.length = r.length) (hml : ∀ x ∈ m, x.length = L.block) (hrl : ∀ x ∈ r, x.length ≤ 2000) (hT : m.length ≤ 400000) (h1 : co.length ≤ 2000) (h2 : li.length ≤ 2000) (h3 : qu.length ≤ 2000) :
    Calls Try.prog 24 #[.agg (layCs L), .slice AM nM cM, .agg #[.slice A0 n0 c0, .slice A1 n1 c1, .slice A2 n2 c2, .slice A3 n3 c3, .slice A4 n4 c4]] w fun e w' => ∃ v, e = .returned v ∧ RRows w' [v] ((List.range L.n).map fun i => (List.range (m.length + 3)).map (colV L (polysP L m r co li qu) i)) ∧ Below w.heap.size w w' := by
  have hp := hL.p
  have hpp := okP_lt hp
  have hb2 := hL.b2
  obtain ⟨hmn, -, -, hMd⟩ := rows_at hm
  obtain ⟨hrn, -, -, hRd⟩ := rows_at hr
  subst hmn
  subst hrn
  have hpl := polysP_len L m r co li qu
  have hps := polysP_short (L := L) (m := m) (r := r) (c := co) (l := li) (q := qu) hb2 hrl h1 h2 h3
  have HEv := Lib.hid (fun A k c l w hl hk => tEvaluate_any L.p A k c L.n L.n.log2 (rowOf L.p).1 l w hp hl (layLenN hL).1 (layLenN hL).2 (gen_mod hp) hk)
  have HGen := Lib.hid (fun w => fGen_any L.p w hp)
  have HCV := Lib.hid (show ∀ ps i, (List.range (m.length + 3)).map (colV L ps i) = (List.range (m.length + 3)).map (fun j => evaP L.p L.n L.n.log2 (ps.getD j []) (rowOf L.p).1 i) from fun _ _ => rfl)
  have HRow := Lib.hid (fun A B n c m d msg masks w hl hk hn hm => mRow_any L A B n c m d msg masks w hL hl hk hn hm)
  have HCo := Lib.hid (fun w' (hb : Below w.heap.size w w') => mCode_any L (.slice A0 r.length c0) (.slice A2 n2 c2) (.slice A3 n3 c3) (.slice A4 n4 c4) A1 n1 c1 co w' ⟨_, _, _, rfl⟩ ⟨_, _, _, rfl⟩ ⟨_, _, _, rfl⟩ ⟨_, _, _, rfl⟩ (kept_RWd _ _ _ _ hb hc) (by have := (lw_at hc).1; omega))
  have HLi := Lib.hid (fun w' (hb : Below w.heap.size w w') => mLinear_any L (.slice A0 r.length c0) (.slice A1 n1 c1) (.slice A3 n3 c3) (.slice A4 n4 c4) A2 n2 c2 li w' hL ⟨_, _, _, rfl⟩ ⟨_, _, _, rfl⟩ ⟨_, _, _, rfl⟩ ⟨_, _, _, rfl⟩ (kept_RWd _ _ _ _ hb hl) (by have := (lw_at hl).1; omega))
  have HQu := Lib.hid (fun w' (hb : Below w.heap.size w w') => mQuad_any L (.slice A0 r.length c0) (.slice A1 n1 c1) (.slice A2 n2 c2) (.slice A4 n4 c4) A3 n3 c3 qu w' hL ⟨_, _, _, rfl⟩ ⟨_, _, _, rfl⟩ ⟨_, _, _, rfl⟩ ⟨_, _, _, rfl⟩ (kept_RWd _ _ _ _ hb hq) (by have := (lw_at hq).1; omega))
  have hlt1 := (lw_at hc).2.2.2.1
  have hlt2 := (lw_at hl).2.2.2.1
  have e1 := (lw_at hc).1
  have e2 := (lw_at hl).1
  have e3 := (lw_at hq).1
  have HLT := Lib.hid (And.intro hlt1 hlt2)
  subst e1 e2 e3
  clear hlt1 hlt2 hc hl hq hm hr
  have HLEN := Lib.hid hlen
  have HML := Lib.hid hml
  have HRL := Lib.hid hrl
  have HPP := Lib.hid hpp
  have HL := Lib.hid hL
  have hn2 := hL.n2
  have hmin : min (m.length : Int) (r.length : Int) = (m.length : Int) := Int.min_eq_left (by omega)
  obtain ⟨T, hTT⟩ : ∃ T, T = m.length := ⟨_, rfl⟩
  obtain ⟨M, hMM⟩ : ∃ M, M = m.length + 3 := ⟨_, rfl⟩
  have x1 : (m.length : Int) + 3 = (M : Int) := by omega
  have x2 : IntKind.i64.wrap (M : Int) = (M : Int) := wr_i64 _ (by omega) (by omega)
  have x3 : (M : Int) ≤ 400003 := by omega
  have x4 : (0 : Int) ≤ (M : Int) := by omega
  have x5 : (m.length : Int) ≤ 400000 := by omega
  have hM1 : M ≤ 400003 := by omega
  have hM1' : M ≤ 1000000 := by omega
  rw [← hMM]
  have HMM := Lib.hid hMM
  rw [← hMM] at hpl HCV
  obtain ⟨ps, hpe⟩ : ∃ ps, ps = polysP L m r co li qu := ⟨_, rfl⟩
  rw [← hpe] at hpl hps ⊢
  have HPE := Lib.hid (show polyRows L m r m.length ++ [co, mlinP L li, quadP L qu] = ps from hpe.symm)
  have HPL := Lib.hid hpl
  have HPS := Lib.hid hps
  replace HCV := Lib.hid (HCV.out ps)
  clear hpe hpl hps
  obtain ⟨gen, hgen⟩ : ∃ gen, gen = (rowOf L.p).1 := ⟨_, rfl⟩
  rw [← hgen] at HEv HGen HCV
  clear hgen
  have HFF := Lib.hid (show ∀ k q, evaP L.p L.n L.n.log2 (ps.getD q []) gen k < 18446744073709551616 from fun k q => Nat.lt_trans (evaP_lt (by have := HPP.out; omega) _ _ _ _ _) HPP.out.2)
  have mk0 := mk_rows0 M (by omega)
  have mkC := mk_rows L.n (by omega)
  have mkM := mk_words M (by omega)
  clear hlen hml hrl hpp hL hp hMM hTT
  unfold layCs fv at *
  obtain ⟨kl, kc, kf, hb0, hsz⟩ := boxes3 w 41 39 88 #[.int .u64 (L.p : Int), .int .i64 (L.block : Int), .int .i64 (L.queries : Int), .int .i64 (L.k : Int), .int .i64 (L.n : Int), .int .i64 (L.secret : Int), .int .i64 (L.rows : Int), .int .i64 (L.a : Int), .int .i64 (L.b : Int), .int .i64 (L.b : Int), .int .i64 (L.b : Int)] #[.slice A0 r.length c0, .slice A1 co.length c1, .slice A2 li.length c2, .slice A3 qu.length c3, .slice A4 n4 c4] #[.int .u64 (L.p : Int)]
  go_enter Try.func24, Try.ntmps24
  go_upto_region 2 with fail
  generalize ((w.alloc _).alloc _).alloc _ = w1 at kl kc kf hb0 hsz ⊢
  have HZ := Lib.hid hsz
  clear hsz
  have cc := kc.cell
  go_upto_region 3 with fail
  have hown := own_rows0 M w1.heap.size hM1' w1 (Nat.le_refl _)
  have hal := (Below.refl w1.heap.size w1).alloc (Nat.le_refl _) (.cells (fillV M fun _ => .slice none 0 0) 28)
  have hN1 : w1.heap.size ≤ (w1.alloc (.cells (fillV M fun _ => .slice none 0 0) 28)).heap.size := hal.size
  replace kl := kl.below hal kl.lt
  replace kc := kc.below hal kc.lt
  replace kf := kf.below hal kf.lt
  replace hb0 := below_chain hb0 hal
  clear hal cc mk0
  obtain ⟨N, hNN⟩ : ∃ N, N = w1.heap.size := ⟨_, rfl⟩
  have xN : w.heap.size + 3 ≤ N := by rw [hNN, HZ.out]; omega
  rw [← hNN] at hown hN1 ⊢
  clear hNN HZ
  generalize w1.alloc _ = w2 at kl kc kf hb0 hown hN1 ⊢
  have cc := kc.cell
  go_wp2_with fail
  clear cc
  go_loopw [8, 31] (fun u y wr => ∃ (i : Nat) (v : Value) (cs : List Value), v = u ∧ i ≤ m.length ∧ y = .int .i64 (i : Int) ∧ Blk wr w.heap.size 41 #[.int .u64 (L.p : Int), .int .i64 (L.block : Int), .int .i64 (L.queries : Int), .int .i64 (L.k : Int), .int .i64 (L.n : Int), .int .i64 (L.secret : Int), .int .i64 (L.rows : Int), .int .i64 (L.a : Int), .int .i64 (L.b : Int), .int .i64 (L.b : Int), .int .i64 (L.b : Int)] ∧ Blk wr (w.heap.size + 1) 39 #[.slice A0 r.length c0, .slice A1 co.length c1, .slice A2 li.length c2, .slice A3 qu.length c3, .slice A4 n4 c4] ∧ Blk wr (w.heap.size + 1 + 1) 88 #[.int .u64 (L.p : Int)] ∧ wr.ownsRow N 28 1 v i cs ∧ GRows N wr v cs (polyRows L m r i) ∧ Below w.heap.size w wr ∧ N ≤ wr.heap.size) (fun _ y _ => m.length - (intOf y).toNat)
  case atStart => exact ⟨0, _, [], rfl, Nat.zero_le _, rfl, kl, kc, kf, hown, grows_nil _ _ _, hb0, hN1⟩
  case round =>
    clear kl kc kf hown hb0 hN1
    obtain ⟨i, v, cs, rfl, hi, rfl, kl, kc, kf, hown, hgr, hb0, hNw⟩ := hrel
    by_cases hlt : i < m.length
    · have q1 : (0 : Int) ≤ (i : Int) := by omega
      have q2 : (i : Int) < (m.length : Int) := by omega
      have q3 : (i : Int) < (r.length : Int) := by have := HLEN.out; omega
      obtain ⟨bm, qm, Am, lm, cm, rfl, hbm0, hcm0, hrm0⟩ := rows_get hMd hlt
      have hcm := (hb0.cell (p := ⟨bm, qm + i, none⟩) hbm0).trans hcm0
      have hrm := kept_RWd _ _ _ _ hb0 hrm0
      have hbm : bm < N := by omega
      obtain ⟨br, qr, Ar, lr, cr, rfl, hbr0, hcr0, hrr0⟩ := rows_get hRd (show i < r.length by have := HLEN.out; omega)
      have hcr := (hb0.cell (p := ⟨br, qr + i, none⟩) hbr0).trans hcr0
      have hrr := kept_RWd _ _ _ _ hb0 hrr0
      have hbr : br < N := by omega
      have z1 := (lw_at hrm).1
      have z2 := (lw_at hrr).1
      have z3 : lm = L.block := by have := HML.out _ (List.getElem_mem hlt); omega
      have z4 : lr ≤ 2000 := by have := HRL.out _ (List.getElem_mem (show i < r.length by have := HLEN.out; omega)); omega
      have HC := Lib.hid (fun w' (hb : Below wr.heap.size wr w') => HRow.out Am Ar lm cm lr cr m[i] _ w' (kept_RWd _ _ _ _ hb hrm) (kept_RWd _ _ _ _ hb hrr) z3 (by omega))
      have HPR := Lib.hid (show (List.range (L.block + lr)).map (mrowP L m[i] (r[i]'(by have := HLEN.out; omega))) = polyRow L m r i by
        unfold polyRow
        rw [List.getD_eq_getElem?_getD, List.getD_eq_getElem?_getD, List.getElem?_eq_getElem hlt, List.getElem?_eq_getElem (show i < r.length by have := HLEN.out; omega)]
        simp only [Option.getD_some]
        first | rw [z2] | rw [← z2])
      have HMX := Lib.hid (show ∀ k, mrowP L m[i] (r[i]'(by have := HLEN.out; omega)) k < 18446744073709551616 from fun k => Nat.lt_trans (mrowP_lt (by have := HPP.out; omega) _ _ _) HPP.out.2)
      have HNX := Lib.hid (polyRows_next L m r i)
      revert HC HPR HMX
      generalize mrowP L m[i] (r[i]'(by have := HLEN.out; omega)) = PF
      intro HC HPR HMX
      clear z1 z2 z3 hrm hrr hrm0 hrr0 hcm0 hcr0
      have n1 : w.heap.size < N := by omega
      have n2 : w.heap.size + 1 < N := by omega
      have cl := kl.cell
      have ll := kl.lt
      have cc := kc.cell
      have lc := kc.lt
      go_upto_region 6 with fail
      refine wpO_begin (From N) [11, 12, 13] [0, 1, 2, 3, 4, 5, 6, 7, 8, 9, 10, 11, 12, 13, 14] (by kernel_rfl) (by kernel_rfl) ?_
      refine wpO_startK (from_moves N) ?_
      intro Wc HWc hacc
      repeat (first | (refine wpO_skip (from_moves N) rfl rfl (fun _ _ _ h => h) ?_ ; simp only [Act.put, List.setIfInBounds_toArray, List.set_cons_zero, List.set_cons_succ]) | (refine wpO_light (v := ?_) (from_moves N) rfl rfl (fun _ _ _ h => h) ?_ ?_ ; rotate_left ; (· (intro w' hR ; (first | have hcells := from_cellsD ((from_moves N).trans _ _ _ hacc hR) | skip) ; go_simp ; try with_reducible rfl)) ; simp only [Act.put, List.setIfInBounds_toArray, List.set_cons_zero, List.set_cons_succ]))
      have hbW : Below wr.heap.size wr Wc := by rw [HWc.out]; exact (Below.refl _ _).drew
      have hNc := hbW.size
      have hNw0 := hNw
      refine wpO_call (from_moves N) rfl rfl rfl (fun _ => by go_simp <;> rfl) ((HC.out _ hbW).mono ?_)
      rintro e w3 ⟨g', rfl, hg', kg', hb3⟩
      refine ⟨_, rfl, from_later hb3 (Nat.le_trans hNw0 hNc), ?_⟩
      replace hacc := (from_moves N).trans _ _ _ hacc (from_later hb3 (Nat.le_trans hNw0 hNc))
      simp only [Act.put, List.setIfInBounds_toArray, List.set_cons_zero, List.set_cons_succ]
      have hb4 := below_chain hbW hb3
      have hNg : N ≤ g' := by omega
      have hvg : some g' ≠ v.ownBlock := fun e => by have := (hown.lt _ e.symm).2; omega
      replace kl := kl.below hb4 kl.lt
      replace kc := kc.below hb4 kc.lt
      replace kf := kf.below hb4 kf.lt
      replace hown := own_below hown hb4 (Nat.le_refl _)
      replace hgr := grows_below hgr hb4
      replace hb0 := below_chain hb0 hb4
      replace hNw := Nat.le_trans hNw hb4.size
      have hNd := Nat.le_trans hNc hb3.size
      have hrx : RWx N v.ownBlock w3 (.slice (some ⟨g', 0, none⟩) (L.block + lr) (L.block + lr)) (polyRow L m r i) := by
        rw [← HPR.out]
        exact rwx_fill kg' (fun k _ => HMX.out k) (by simp [maxLen]; omega) hNg hvg
      have HNd := Lib.hid (And.intro hNd (show wr.heap.size ≤ w3.heap.size from hb4.size))
      clear kg' hb3 hb4 hNg hvg hg' hNc hbW HC HWc hacc cl ll cc lc hNd
      have hacc := (from_moves N).refl w3
      repeat (first | (refine wpO_skip (from_moves N) rfl rfl (fun _ _ _ h => h) ?_ ; simp only [Act.put, List.setIfInBounds_toArray, List.set_cons_zero, List.set_cons_succ]) | (refine wpO_light (v := ?_) (from_moves N) rfl rfl (fun _ _ _ h => h) ?_ ?_ ; rotate_left ; (· (intro w' hR ; (first | have hcells := from_cellsD ((from_moves N).trans _ _ _ hacc hR) | skip) ; go_simp ; try with_reducible rfl)) ; simp only [Act.put, List.setIfInBounds_toArray, List.set_cons_zero, List.set_cons_succ]))
      refine wpO_heavy (from_moves N) rfl rfl rfl ?_
      go_simp
      refine ⟨from_later ((Below.refl _ _).alloc (Nat.le_refl _) _) hNw, ?_⟩
      have hal := (Below.refl w3.heap.size w3).alloc (Nat.le_refl _) (.cells #[.slice (some ⟨g', 0, none⟩) (L.block + lr) (L.block + lr)] 28)
      have hrd := rd_one w3 (.slice (some ⟨g', 0, none⟩) (L.block + lr) (L.block + lr)) 28
      replace hrx := rwx_keep hrx hal.size (fun b _ h2 _ => hal.block b h2)
      replace kl := kl.below hal kl.lt
      replace kc := kc.below hal kc.lt
      replace kf := kf.below hal kf.lt
      replace hown := own_below hown hal (Nat.le_refl _)
      replace hgr := grows_below hgr hal
      replace hb0 := below_chain hb0 hal
      replace hNw := Nat.le_trans hNw hal.size
      have HNe := Lib.hid (Nat.le_trans HNd.out.2 hal.size)
      try simp only [Act.put, List.setIfInBounds_toArray, List.set_cons_zero, List.set_cons_succ]
      generalize w3.alloc _ = w4 at kl kc kf hown hgr hrx hb0 hrd hNw HNe ⊢
      generalize w3.heap.size = g7 at hrd ⊢
      clear hal HNd hacc
      have hacc := (from_moves N).refl w4
      repeat (first | (refine wpO_skip (from_moves N) rfl rfl (fun _ _ _ h => h) ?_ ; simp only [Act.put, List.setIfInBounds_toArray, List.set_cons_zero, List.set_cons_succ]) | (refine wpO_light (v := ?_) (from_moves N) rfl rfl (fun _ _ _ h => h) ?_ ?_ ; rotate_left ; (· (intro w' hR ; (first | have hcells := from_cellsD ((from_moves N).trans _ _ _ hacc hR) | skip) ; go_simp ; try with_reducible rfl)) ; simp only [Act.put, List.setIfInBounds_toArray, List.set_cons_zero, List.set_cons_succ]))
      refine wpO_heavy (from_moves N) rfl rfl rfl ?_
      refine wp_append_rd _ _ rfl el_ww rfl hown rfl hrd (by intro u hu; simp at hu; subst hu; rfl) (by omega) hNw ?_
      intro v' wn hown' hgrow hblk
      have hvb : ∀ q, v.ownBlock = some q → N ≤ q := fun q e => (hown.lt q e).1
      have hBn := lw_grow hown hgrow hNw
      refine ⟨hBn, ?_⟩
      have hgn := grows_app hgr hrx hgrow hblk
      rw [HNX.out] at hgn
      replace kl := kl.grown hgrow (fun e => by have := hvb _ e.symm; omega)
      replace kc := kc.grown hgrow (fun e => by have := hvb _ e.symm; omega)
      replace kf := kf.grown hgrow (fun e => by have := hvb _ e.symm; omega)
      replace hb0 := hb0.trans (hBn.mono (by omega))
      have hNn : N ≤ wn.heap.size := by have := hgrow.size; omega
      clear hown hgr hrx hgrow hblk hvb hrd hacc hBn HNe hNw
      have hacc := (from_moves N).refl wn
      try simp only [Act.put, List.setIfInBounds_toArray, List.set_cons_zero, List.set_cons_succ]
      repeat (first | (refine wpO_skip (from_moves N) rfl rfl (fun _ _ _ h => h) ?_ ; simp only [Act.put, List.setIfInBounds_toArray, List.set_cons_zero, List.set_cons_succ]) | (refine wpO_light (v := ?_) (from_moves N) rfl rfl (fun _ _ _ h => h) ?_ ?_ ; rotate_left ; (· (intro w' hR ; (first | have hcells := from_cellsD ((from_moves N).trans _ _ _ hacc hR) | skip) ; go_simp ; try with_reducible rfl)) ; simp only [Act.put, List.setIfInBounds_toArray, List.set_cons_zero, List.set_cons_succ]))
      refine wpO_done ?_
      go_wp2
      go_roundw
      case rel => exact ⟨i + 1, v', _, rfl, by omega, by go_num, kl, kc, kf, hown', hgn, hb0, hNn⟩
      case measure => simp [intOf]; omega
    · obtain rfl : i = m.length := by omega
      have g2 : ¬ ((m.length : Int) < (m.length : Int)) := by omega
      clear hMd hRd HRow
      have cl := kl.cell
      have cc := kc.cell
      have n1 : w.heap.size < N := by omega
      have n2 : w.heap.size + 1 < N := by omega
      go_upto_region 8 with fail
      refine wpO_begin (From N) [3, 6, 9, 10, 11] [0, 1, 2, 4, 5, 7, 8, 3, 6, 9, 10, 11, 12] (by kernel_rfl) (by kernel_rfl) ?_
      refine wpO_startK (from_moves N) ?_
      intro Wc HWc hacc
      repeat (first | (refine wpO_skip (from_moves N) rfl rfl (fun _ _ _ h => h) ?_ ; simp only [Act.put, List.setIfInBounds_toArray, List.set_cons_zero, List.set_cons_succ]) | (refine wpO_light (v := ?_) (from_moves N) rfl rfl (fun _ _ _ h => h) ?_ ?_ ; rotate_left ; (· (intro w' hR ; (first | have hcells := from_cellsD ((from_moves N).trans _ _ _ hacc hR) | skip) ; go_simp ; try with_reducible rfl)) ; simp only [Act.put, List.setIfInBounds_toArray, List.set_cons_zero, List.set_cons_succ]))
      have hbW : Below wr.heap.size wr Wc := by rw [HWc.out]; exact (Below.refl _ _).drew
      replace kl := kl.below hbW kl.lt
      replace kc := kc.below hbW kc.lt
      replace kf := kf.below hbW kf.lt
      replace hown := own_below hown hbW (Nat.le_refl _)
      replace hgr := grows_below hgr hbW
      replace hb0 := below_chain hb0 hbW
      replace hNw := Nat.le_trans hNw hbW.size
      clear hbW HWc cl cc
      refine wpO_call (from_moves N) rfl rfl rfl (fun _ => by go_simp <;> rfl) ((HCo.out _ hb0).mono ?_)
      rintro e w3 ⟨v1, rfl, o1, hb3⟩
      refine ⟨_, rfl, from_later hb3 hNw, ?_⟩
      replace hacc := (from_moves N).trans _ _ _ hacc (from_later hb3 hNw)
      simp only [Act.put, List.setIfInBounds_toArray, List.set_cons_zero, List.set_cons_succ]
      have hv1 : ∀ q, v.ownBlock = some q → q < Wc.heap.size := fun q e => (hown.lt q e).2
      have hx1 : RWx N v.ownBlock w3 v1 co := rwx_own o1 HLT.out.1 hNw hv1
      obtain ⟨A1', c1', rfl, -⟩ := own_form o1
      replace kl := kl.below hb3 kl.lt
      replace kc := kc.below hb3 kc.lt
      replace kf := kf.below hb3 kf.lt
      replace hown := own_below hown hb3 (Nat.le_refl _)
      replace hgr := grows_below hgr hb3
      replace hb0 := below_chain hb0 hb3
      replace hNw := Nat.le_trans hNw hb3.size
      clear hb3 o1 hacc hv1
      have hacc := (from_moves N).refl w3
      refine wpO_call (from_moves N) rfl rfl rfl (fun _ => by go_simp <;> rfl) ((HLi.out _ hb0).mono ?_)
      rintro e w4 ⟨v2, rfl, o2, hb4⟩
      refine ⟨_, rfl, from_later hb4 hNw, ?_⟩
      replace hacc := (from_moves N).trans _ _ _ hacc (from_later hb4 hNw)
      simp only [Act.put, List.setIfInBounds_toArray, List.set_cons_zero, List.set_cons_succ]
      have hv2 : ∀ q, v.ownBlock = some q → q < w3.heap.size := fun q e => (hown.lt q e).2
      have hx2 : RWx N v.ownBlock w4 v2 (mlinP L li) := rwx_own o2 (by
        have hp := HPP.out
        intro x hx
        rcases List.mem_cons.1 hx with rfl | hx
        · exact Nat.lt_trans (linA_lt (by omega) _ _) hp.2
        · exact HLT.out.2 x hx) hNw hv2
      obtain ⟨A2', c2', rfl, -⟩ := own_form o2
      replace hx1 := rwx_keep hx1 hb4.size (fun b _ h2 _ => hb4.block b h2)
      replace kl := kl.below hb4 kl.lt
      replace kc := kc.below hb4 kc.lt
      replace kf := kf.below hb4 kf.lt
      replace hown := own_below hown hb4 (Nat.le_refl _)
      replace hgr := grows_below hgr hb4
      replace hb0 := below_chain hb0 hb4
      replace hNw := Nat.le_trans hNw hb4.size
      clear hb4 o2 hacc hv2
      have hacc := (from_moves N).refl w4
      refine wpO_call (from_moves N) rfl rfl rfl (fun _ => by go_simp <;> rfl) ((HQu.out _ hb0).mono ?_)
      rintro e w5 ⟨g3, rfl, hg3, k3, hb5⟩
      refine ⟨_, rfl, from_later hb5 hNw, ?_⟩
      replace hacc := (from_moves N).trans _ _ _ hacc (from_later hb5 hNw)
      simp only [Act.put, List.setIfInBounds_toArray, List.set_cons_zero, List.set_cons_succ]
      have hv3 : some g3 ≠ v.ownBlock := fun e => by have := (hown.lt _ e.symm).2; omega
      have hx3 : RWx N v.ownBlock w5 (.slice (some ⟨g3, 0, none⟩) (L.block + qu.length) (L.block + qu.length)) (quadP L qu) :=
        rwx_fill k3 (fun k _ => Nat.lt_trans (vanP_lt (by have := HPP.out; omega) _ _ _) HPP.out.2) (by simp [maxLen]; omega) (by omega) hv3
      replace hx1 := rwx_keep hx1 hb5.size (fun b _ h2 _ => hb5.block b h2)
      replace hx2 := rwx_keep hx2 hb5.size (fun b _ h2 _ => hb5.block b h2)
      replace kl := kl.below hb5 kl.lt
      replace kc := kc.below hb5 kc.lt
      replace kf := kf.below hb5 kf.lt
      replace hown := own_below hown hb5 (Nat.le_refl _)
      replace hgr := grows_below hgr hb5
      replace hb0 := below_chain hb0 hb5
      replace hNw := Nat.le_trans hNw hb5.size
      clear hb5 k3 hg3 hacc hv3 HCo HLi HQu kc
      have hacc := (from_moves N).refl w5
      refine wpO_heavy (from_moves N) rfl rfl rfl ?_
      go_simp
      refine ⟨from_later ((Below.refl _ _).alloc (Nat.le_refl _) _) hNw, ?_⟩
      have hal := (Below.refl w5.heap.size w5).alloc (Nat.le_refl _) (.cells #[.slice A1' co.length c1', .slice A2' (li.length + 1) c2', .slice (some ⟨g3, 0, none⟩) (L.block + qu.length) (L.block + qu.length)] 28)
      have hrd := rd_three w5 (.slice A1' co.length c1') (.slice A2' (li.length + 1) c2') (.slice (some ⟨g3, 0, none⟩) (L.block + qu.length) (L.block + qu.length)) 28
      replace hx1 := rwx_keep hx1 hal.size (fun b _ h2 _ => hal.block b h2)
      replace hx2 := rwx_keep hx2 hal.size (fun b _ h2 _ => hal.block b h2)
      replace hx3 := rwx_keep hx3 hal.size (fun b _ h2 _ => hal.block b h2)
      replace kl := kl.below hal kl.lt
      replace kf := kf.below hal kf.lt
      replace hown := own_below hown hal (Nat.le_refl _)
      replace hgr := grows_below hgr hal
      replace hb0 := below_chain hb0 hal
      replace hNw := Nat.le_trans hNw hal.size
      try simp only [Act.put, List.setIfInBounds_toArray, List.set_cons_zero, List.set_cons_succ]
      generalize w5.alloc _ = w6 at kl kf hown hgr hx1 hx2 hx3 hb0 hrd hNw ⊢
      generalize w5.heap.size = g7 at hrd ⊢
      clear hal hacc
      have hacc := (from_moves N).refl w6
      repeat (first | (refine wpO_skip (from_moves N) rfl rfl (fun _ _ _ h => h) ?_ ; simp only [Act.put, List.setIfInBounds_toArray, List.set_cons_zero, List.set_cons_succ]) | (refine wpO_light (v := ?_) (from_moves N) rfl rfl (fun _ _ _ h => h) ?_ ?_ ; rotate_left ; (· (intro w' hR ; (first | have hcells := from_cellsD ((from_moves N).trans _ _ _ hacc hR) | skip) ; go_simp ; try with_reducible rfl)) ; simp only [Act.put, List.setIfInBounds_toArray, List.set_cons_zero, List.set_cons_succ]))
      refine wpO_heavy (from_moves N) rfl rfl rfl ?_
      refine wp_append_rd _ _ rfl el_ww rfl hown rfl hrd (by intro u hu; simp at hu; rcases hu with rfl | rfl | rfl <;> rfl) (by omega) hNw ?_
      intro v' wn hown' hgrow hblk
      have hvb : ∀ q, v.ownBlock = some q → N ≤ q := fun q e => (hown.lt q e).1
      have hBn := lw_grow hown hgrow hNw
      refine ⟨hBn, ?_⟩
      have hgn := grows_app3 hgr hx1 hx2 hx3 hgrow hblk
      replace kl := kl.grown hgrow (fun e => by have := hvb _ e.symm; omega)
      replace kf := kf.grown hgrow (fun e => by have := hvb _ e.symm; omega)
      replace hb0 := hb0.trans (hBn.mono (by omega))
      have hrows := grows_done hgn hown'
      clear hown hgr hx1 hx2 hx3 hgrow hblk hvb hrd hacc hBn hNw hgn
      have hacc := (from_moves N).refl wn
      try simp only [Act.put, List.setIfInBounds_toArray, List.set_cons_zero, List.set_cons_succ]
      repeat (first | (refine wpO_skip (from_moves N) rfl rfl (fun _ _ _ h => h) ?_ ; simp only [Act.put, List.setIfInBounds_toArray, List.set_cons_zero, List.set_cons_succ]) | (refine wpO_light (v := ?_) (from_moves N) rfl rfl (fun _ _ _ h => h) ?_ ?_ ; rotate_left ; (· (intro w' hR ; (first | have hcells := from_cellsD ((from_moves N).trans _ _ _ hacc hR) | skip) ; go_simp ; try with_reducible rfl)) ; simp only [Act.put, List.setIfInBounds_toArray, List.set_cons_zero, List.set_cons_succ]))
      refine wpO_done ?_
      rw [HPE.out] at hrows
      rw [← HMM.out] at hown'
      obtain ⟨Ap, cp, rfl, hcp, -⟩ := own_form hown'
      clear hown' hacc HPE HMM HLEN HML HRL HLT
      obtain ⟨-, -, hcm, hPd⟩ := rows_at hrows
      obtain ⟨gC, hgC⟩ : ∃ gC, gC = wn.heap.size := ⟨_, rfl⟩
      have y0 : w.heap.size + 3 ≤ gC := by rw [hgC]; have := hb0.size; have := kf.lt; omega
      have lM : M ≤ maxLen := by simp [maxLen]; omega
      have hmaxn : max (0 : Int) (L.n : Int) = (L.n : Int) := Int.max_eq_right (by omega)
      have xn : (L.n : Int) ≤ 1024 := by omega
      have cl := kl.cell
      go_upto_region 10 with fail
      have kC := Blk.new wn 28 (fillV L.n fun _ => .slice none 0 0)
      have hal := (Below.refl wn.heap.size wn).alloc (Nat.le_refl _) (.cells (fillV L.n fun _ => .slice none 0 0) 28)
      have hs7 : (wn.alloc (.cells (fillV L.n fun _ => .slice none 0 0) 28)).heap.size = gC + 1 := by rw [hgC]; simp
      rw [← hgC] at kC hal ⊢
      clear cl mkC
      generalize wn.alloc _ = w7 at kC hal hs7 ⊢
      rw [fillV_same (g := fun k => if k < 0 then mkS M (gC + 1 + k) else .slice none 0 0) (fun k _ => by simp)] at kC
      have HGC := Lib.hid hgC
      have HS7 := Lib.hid hs7
      clear hgC hs7
      go_wp2_with fail
      go_loopw [67] (fun y wr => ∃ i : Nat, i ≤ L.n ∧ y = .int .i64 (i : Int) ∧ Blk wr gC 28 (fillV L.n fun k => if k < i then mkS M (gC + 1 + k) else .slice none 0 0) ∧ Hid (∀ k, k < i → Blk wr (gC + 1 + k) 22 (fillC M fun _ => 0)) ∧ Hid (wr.heap.size = gC + 1 + i) ∧ Below gC wn wr) (fun y _ => L.n - (intOf y).toNat)
      case atStart => exact ⟨0, Nat.zero_le _, rfl, kC, fun k h => by omega, HS7.out, hal⟩
      case round =>
        clear kC hal HS7
        obtain ⟨i, hi, rfl, kC, HK, HSZ, hbn⟩ := hrel
        by_cases hlt : i < L.n
        · have q1 : (0 : Int) ≤ (i : Int) := by omega
          have q2 : (i : Int) < (L.n : Int) := by omega
          have cC := kC.cell i
          rw [fillV_get _ hlt, if_neg (Nat.lt_irrefl i)] at cC
          have lC := kC.lt
          have fC := kC.frozen
          go_wp2_with fail
          have hgi := HSZ.out
          rw [hgi]
          have hg := set_only (w := wr) gC i (mkS M (gC + 1 + i))
          replace kC := kC.set_ i (mkS M (gC + 1 + i))
          rw [fillV_set, fillV_same (g := fun k => if k < i + 1 then mkS M (gC + 1 + k) else .slice none 0 0) (fun k _ => by
            by_cases e : k = i
            · subst e; simp
            · rw [if_neg e]
              by_cases e2 : k < i
              · rw [if_pos e2, if_pos (by omega)]
              · rw [if_neg e2, if_neg (by omega)])] at kC
          have HK2 : Hid (∀ k, k < i → Blk (wr.setCell ⟨gC, i, none⟩ (mkS M (gC + 1 + i))) (gC + 1 + k) 22 (fillC M fun _ => 0)) := fun k h => (HK.out k h).grown hg (fun e => by have := Option.some.inj e; omega)
          have hsz8 : (wr.setCell ⟨gC, i, none⟩ (mkS M (gC + 1 + i))).heap.size = gC + 1 + i := by simp [World.setCell]; exact hgi
          replace hbn := hbn.trans (below_of_only hg (by have := hbn.size; have := HGC.out; omega) (Nat.le_refl _))
          clear hg HK hgi HSZ cC fC lC
          generalize wr.setCell _ _ = w8 at kC HK2 hsz8 hbn ⊢
          have hal := (Below.refl w8.heap.size w8).alloc (Nat.le_refl _) (.cells (fillC M fun _ => 0) 22)
          have kN := Blk.new w8 22 (fillC M fun _ => 0)
          have HSN := Lib.hid (show (w8.alloc (.cells (fillC M fun _ => 0) 22)).heap.size = gC + 1 + (i + 1) by simp; omega)
          rw [hsz8] at kN
          replace kC := kC.below hal kC.lt
          have HK3 : Hid (∀ k, k < i + 1 → Blk (w8.alloc (.cells (fillC M fun _ => 0) 22)) (gC + 1 + k) 22 (fillC M fun _ => 0)) := fun k h => by
            by_cases e : k = i
            · subst e; exact kN
            · exact (HK2.out k (by omega)).below hal (HK2.out k (by omega)).lt
          replace hbn := hbn.trans (hal.mono (by omega))
          clear hal kN HK2 hsz8
          generalize w8.alloc _ = w9 at kC HK3 HSN hbn ⊢
          go_roundw
          case rel => exact ⟨i + 1, by omega, by go_num, kC, HK3, HSN, hbn⟩
          case measure => simp [intOf]; omega
        · obtain rfl : i = L.n := by omega
          rw [fillV_same (g := fun k => mkS M (gC + 1 + k)) (fun k hk => if_pos hk)] at kC
          have hs9 : gC + 1 + L.n ≤ wr.heap.size := by rw [HSZ.out]; omega
          have HK2 : Hid (∀ k, k < L.n → Blk wr (gC + 1 + k) 22 (fillC M fun q => if q < 0 then evaP L.p L.n L.n.log2 (ps.getD q []) gen k else 0)) := fun k h => by
            have := HK.out k h
            rw [fill_same (g := fun q => if q < 0 then evaP L.p L.n L.n.log2 (ps.getD q []) gen k else 0) (fun q _ => by simp)] at this
            exact this
          clear HK HSZ mkM
          go_wp2_with fail
          go_loopw [79] (fun y wr => ∃ j : Nat, j ≤ M ∧ y = .int .i64 (j : Int) ∧ Blk wr gC 28 (fillV L.n fun k => mkS M (gC + 1 + k)) ∧ Hid (∀ k, k < L.n → Blk wr (gC + 1 + k) 22 (fillC M fun q => if q < j then evaP L.p L.n L.n.log2 (ps.getD q []) gen k else 0)) ∧ gC + 1 + L.n ≤ wr.heap.size ∧ Below gC wn wr) (fun y _ => M - (intOf y).toNat)
          case atStart => exact ⟨0, Nat.zero_le _, rfl, kC, HK2, hs9, hbn⟩
          case round =>
            clear kC HK2 hs9 hbn
            obtain ⟨j, hj, rfl, kC, HK, hsz, hbn⟩ := hrel
            by_cases hlt : j < M
            · have q1 : (0 : Int) ≤ (j : Int) := by omega
              have q2 : (j : Int) < (M : Int) := by omega
              obtain ⟨bp, qp, Aj, lj, cj, rfl, hbp, hcp', hrp⟩ := rows_get hPd (show j < ps.length by rw [HPL.out]; exact hlt)
              have hbp2 : bp < gC := by rw [HGC.out]; exact hbp
              have hcj := (hbn.cell (p := ⟨bp, qp + j, none⟩) hbp2).trans hcp'
              have hbn2 : Below wn.heap.size wn wr := by rw [← HGC.out]; exact hbn
              have hrj := kept_RWd _ _ _ _ hbn2 hrp
              have hgd : ps[j]'(by rw [HPL.out]; exact hlt) = ps.getD j [] := by rw [List.getD_eq_getElem?_getD, List.getElem?_eq_getElem]; rfl
              have hlj : lj ≤ 8192 := by have h1 := HPS.out _ (List.getElem_mem (show j < ps.length by rw [HPL.out]; exact hlt)); have h2 := (lw_at hrp).1; omega
              rw [hgd] at hrj
              have HE := Lib.hid (fun w' (hb : Below wr.heap.size wr w') => HEv.out Aj lj cj (ps.getD j []) w' (kept_RWd _ _ _ _ hb hrj) hlj)
              have kl' := kl.below hbn (show w.heap.size < gC by omega)
              have kf' := kf.below hbn (show w.heap.size + 1 + 1 < gC by omega)
              have cl := kl'.cell
              have ll := kl'.lt
              have cf := kf'.cell
              have lf := kf'.lt
              clear hcp' hrp hrj hgd hbn2
              have hbpw : bp < wr.heap.size := by omega
              go_upto_region 18 with fail
              refine wpO_begin (Later) [3, 6] [0, 1, 2, 4, 5, 3, 6, 7, 8, 9, 10, 11] (by kernel_rfl) (by kernel_rfl) ?_
              refine wpO_startK (later_moves) ?_
              intro Wc HWc hacc
              repeat (first | (refine wpO_skip (later_moves) rfl rfl (fun _ _ _ h => h) ?_ ; simp only [Act.put, List.setIfInBounds_toArray, List.set_cons_zero, List.set_cons_succ]) | (refine wpO_light (v := ?_) (later_moves) rfl rfl (fun _ _ _ h => h) ?_ ?_ ; rotate_left ; (· (intro w' hR ; (first | have hcells := later_cellsD ((later_moves).trans _ _ _ hacc hR) | skip) ; go_simp ; try with_reducible rfl)) ; simp only [Act.put, List.setIfInBounds_toArray, List.set_cons_zero, List.set_cons_succ]))
              have hbW : Below wr.heap.size wr Wc := by rw [HWc.out]; exact (Below.refl _ _).drew
              refine wpO_call (later_moves) rfl rfl rfl (fun _ => by go_simp <;> rfl) ((HGen.out _).mono ?_)
              rintro e w3 ⟨rfl, hb3⟩
              refine ⟨_, rfl, hb3, ?_⟩
              replace hacc := (later_moves).trans _ _ _ hacc (hb3)
              simp only [Act.put, List.setIfInBounds_toArray, List.set_cons_zero, List.set_cons_succ]
              have hb4 := below_chain hbW hb3
              repeat (first | (refine wpO_skip (later_moves) rfl rfl (fun _ _ _ h => h) ?_ ; simp only [Act.put, List.setIfInBounds_toArray, List.set_cons_zero, List.set_cons_succ]) | (refine wpO_light (v := ?_) (later_moves) rfl rfl (fun _ _ _ h => h) ?_ ?_ ; rotate_left ; (· (intro w' hR ; (first | have hcells := later_cellsD ((later_moves).trans _ _ _ hacc hR) | skip) ; go_simp ; try with_reducible rfl)) ; simp only [Act.put, List.setIfInBounds_toArray, List.set_cons_zero, List.set_cons_succ]))
              refine wpO_call (later_moves) rfl rfl rfl (fun _ => by go_simp <;> rfl) ((HE.out _ hb4).mono ?_)
              rintro e w5 ⟨gv, rfl, hgv, kv, hb5⟩
              refine ⟨_, rfl, hb5, ?_⟩
              replace hacc := (later_moves).trans _ _ _ hacc (hb5)
              simp only [Act.put, List.setIfInBounds_toArray, List.set_cons_zero, List.set_cons_succ]
              have hb6 := below_chain hb4 hb5
              have hgv2 : wr.heap.size ≤ gv := Nat.le_trans hb4.size hgv
              replace kC := kC.below hb6 kC.lt
              have HK2 : Hid (∀ k, k < L.n → Blk w5 (gC + 1 + k) 22 (fillC M fun q => if q < j ∨ (q = j ∧ k < 0) then evaP L.p L.n L.n.log2 (ps.getD q []) gen k else 0)) := fun k h => by
                have := (HK.out k h).below hb6 (HK.out k h).lt
                rw [fill_same (g := fun q => if q < j ∨ (q = j ∧ k < 0) then evaP L.p L.n L.n.log2 (ps.getD q []) gen k else 0) (fun q _ => by simp)] at this
                exact this
              have hbn3 := hbn.trans (hb6.mono (by omega))
              have hsz2 := Nat.le_trans hsz hb6.size
              have hgv3 : gC + 1 + L.n ≤ gv := by omega
              clear hbW hb3 hb4 hb5 hb6 HWc hacc HK hbn hsz cl ll cf lf kl' kf' HE hcj hgv
              repeat (first | (refine wpO_skip (later_moves) rfl rfl (fun _ _ _ h => h) ?_ ; simp only [Act.put, List.setIfInBounds_toArray, List.set_cons_zero, List.set_cons_succ]) | (refine wpO_light (v := ?_) (later_moves) rfl rfl (fun _ _ _ h => h) ?_ ?_ ; rotate_left ; (· (intro w' hR ; (first | have hcells := later_cellsD ((later_moves).trans _ _ _ hacc hR) | skip) ; go_simp ; try with_reducible rfl)) ; simp only [Act.put, List.setIfInBounds_toArray, List.set_cons_zero, List.set_cons_succ]))
              refine wpO_done ?_
              obtain ⟨V, hV⟩ : ∃ V : Nat → Nat → Nat, V = fun q k => evaP L.p L.n L.n.log2 (ps.getD q []) gen k := ⟨_, rfl⟩
              have HV := Lib.hid hV
              rw [show evaP L.p L.n L.n.log2 (ps.getD j []) gen = V j by rw [hV]] at kv
              replace HK2 : Hid (∀ k, k < L.n → Blk w5 (gC + 1 + k) 22 (fillC M fun q => if q < j ∨ (q = j ∧ k < 0) then V q k else 0)) := by rw [hV]; exact HK2
              clear hV
              go_wp2_with fail
              go_loopw [96] (fun y wr => ∃ i : Nat, i ≤ L.n ∧ y = .int .i64 (i : Int) ∧ Blk wr gC 28 (fillV L.n fun k => mkS M (gC + 1 + k)) ∧ Hid (∀ k, k < L.n → Blk wr (gC + 1 + k) 22 (fillC M fun q => if q < j ∨ (q = j ∧ k < i) then V q k else 0)) ∧ gC + 1 + L.n ≤ wr.heap.size ∧ Below gC wn wr ∧ Blk wr gv 22 (fillC L.n (V j))) (fun y _ => L.n - (intOf y).toNat)
              case atStart => exact ⟨0, Nat.zero_le _, rfl, kC, HK2, hsz2, hbn3, kv⟩
              case round =>
                clear kC HK2 hsz2 hbn3 kv
                obtain ⟨i, hi, rfl, kC, HK, hsz, hbn, kv⟩ := hrel
                by_cases hlti : i < L.n
                · have p1 : (0 : Int) ≤ (i : Int) := by omega
                  have p2 : (i : Int) < (L.n : Int) := by omega
                  obtain ⟨x, hx⟩ : ∃ x, x = V j i := ⟨_, rfl⟩
                  have cv := kv.cell i
                  rw [fill_get _ hlti, ← hx] at cv
                  have lv := kv.lt
                  have cC := kC.cell i
                  rw [fillV_get _ hlti] at cC
                  have lC := kC.lt
                  obtain ⟨gi, hgi⟩ : ∃ gi, gi = gC + 1 + i := ⟨_, rfl⟩
                  have kI : Blk wr gi 22 (fillC M fun q => if q < j ∨ (q = j ∧ i < i) then V q i else 0) := by rw [hgi]; exact HK.out i hlti
                  have cI := kI.cell j
                  rw [fill_get _ hlt] at cI
                  generalize (if j < j ∨ (j = j ∧ i < i) then V j i else 0) = old at cI
                  have lI := kI.lt
                  have fI := kI.frozen
                  rw [← hgi] at cC
                  have ngC : gi ≠ gC := by omega
                  have ngv : gi ≠ gv := by omega
                  dsimp only [mkS] at cC
                  have HGI := Lib.hid hgi
                  have HXX := Lib.hid hx
                  clear hgi hx
                  go_wp2_with fail
                  have hg := set_only (w := wr) gi j (.int .u64 (x : Int))
                  have hK2 : Hid (∀ k, k < L.n → Blk (wr.setCell ⟨gi, j, none⟩ (.int .u64 (x : Int))) (gC + 1 + k) 22 (fillC M fun q => if q < j ∨ (q = j ∧ k < i + 1) then V q k else 0)) := fun k h => by
                    by_cases e : k = i
                    · subst e
                      have h2 := kI.set_ j (.int .u64 (x : Int))
                      rw [fill_set] at h2
                      rw [← HGI.out]
                      rw [fill_same (g := fun q => if q < j ∨ (q = j ∧ k < k + 1) then V q k else 0) (fun q _ => by
                        simp only [putF]
                        by_cases e : q = j
                        · subst e; rw [if_pos rfl, if_pos (by omega), HXX.out]
                        · rw [if_neg e]
                          by_cases e2 : q < j
                          · rw [if_pos (.inl e2), if_pos (.inl e2)]
                          · rw [if_neg (by omega), if_neg (by omega)])] at h2
                      exact h2
                    · have h2 := (HK.out k h).grown hg (fun e2 => by have := Option.some.inj e2; have := HGI.out; omega)
                      rw [fill_same (g := fun q => if q < j ∨ (q = j ∧ k < i + 1) then V q k else 0) (fun q _ => by
                        by_cases e2 : q < j ∨ (q = j ∧ k < i)
                        · rw [if_pos e2, if_pos (by omega)]
                        · rw [if_neg e2, if_neg (by omega)])] at h2
                      exact h2
                  replace kC := kC.grown hg (fun e => ngC (Option.some.inj e).symm)
                  replace kv := kv.grown hg (fun e => ngv (Option.some.inj e).symm)
                  replace hsz := Nat.le_trans hsz hg.size
                  replace hbn := hbn.trans (below_of_only hg (by have := hbn.size; have := HGC.out; omega) (by have := HGI.out; omega))
                  clear hg HK kI cI cC cv lI fI lC lv HXX
                  go_roundw
                  case rel => exact ⟨i + 1, by omega, by go_num, kC, hK2, hsz, hbn, kv⟩
                  case measure => simp [intOf]; omega
                · obtain rfl : i = L.n := by omega
                  have HK3 : Hid (∀ k, k < L.n → Blk wr (gC + 1 + k) 22 (fillC M fun q => if q < j + 1 then evaP L.p L.n L.n.log2 (ps.getD q []) gen k else 0)) := fun k h => by
                    have h2 := HK.out k h
                    rw [fill_same (g := fun q => if q < j + 1 then evaP L.p L.n L.n.log2 (ps.getD q []) gen k else 0) (fun q _ => by
                      rw [HV.out]
                      by_cases e2 : q < j + 1
                      · rw [if_pos e2, if_pos (by omega)]
                      · rw [if_neg e2, if_neg (by omega)])] at h2
                    exact h2
                  clear HK kv
                  go_wp2
                  go_roundw
                  case rel => exact ⟨j + 1, by omega, by go_num, kC, HK3, hsz, hbn⟩
                  case measure => simp [intOf]; omega
            · obtain rfl : j = M := by omega
              go_wp2
              go_ret
              refine ⟨_, rfl, ?_, hb0.trans (hbn.mono (by omega))⟩
              rw [show (fun i => (List.range j).map (colV L ps i)) = fun i => (List.range j).map fun q => evaP L.p L.n L.n.log2 (ps.getD q []) gen i from funext fun i => HCV.out i]
              refine frows_done (N := gC + 1) (gb := none) (cs := fillV L.n fun k => mkS j (gC + 1 + k)) (fun k hk => ⟨_, fillV_get _ hk, ?_⟩) kC (by simp [maxLen]; omega)
              have h2 := HK.out k hk
              rw [fill_same (g := fun q => evaP L.p L.n L.n.log2 (ps.getD q []) gen k) (fun q hq => if_pos hq)] at h2
              exact rwx_fill h2 (fun q _ => HFF.out k q) lM (by omega) (fun e => by cases e)
end Go.Proofs.Ytefnagiffllhbaa
