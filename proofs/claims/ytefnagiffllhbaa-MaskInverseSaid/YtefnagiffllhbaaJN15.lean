/-
  The program's table.Valid; layout's parts and validParams.
-/
import Derived.Test.YtefnagiffllhbaaJN14
import Derived.Test.YtefnagiffllhbaaJN3
import Derived.Test.YtefnagiffllhbaaJN4
import Derived.Test.YtefnagiffllhbaaJN9

/- ColB -/
namespace Go.Proofs.Ytefnagiffllhbaa
open Go.RowKit

theorem mk_rows0 (n : Nat) (hn : n ≤ 1000000) (w : World) :
    (Instr.makeSlice 37 (.int .i64 0) (.int .i64 (n : Int))).run Try.prog w = .ok (.slice (some ⟨w.heap.size, 0, none⟩) 0 n) (w.alloc (.cells (fillV n fun _ => .slice none 0 0) 28)) := by
  obtain ⟨ht, ⟨i, hi, hz, hs, hby⟩, hzs, hsz⟩ := el_ww
  have := run_make (P := Try.prog) w 37 28 i _ ht hi hz .i64 .i64 0 (n : Int) (by omega) (by omega) (by rw [hby]; omega) (by omega)
  rw [Int.toNat_natCast, hs, made_nilV] at this
  exact this
theorem own_rows0 (n base : Nat) (hn : n ≤ 1000000) (w : World) (hb : base ≤ w.heap.size) : (w.alloc (.cells (fillV n fun _ => .slice none 0 0) 28)).ownsRow base 28 1 (.slice (some ⟨w.heap.size, 0, none⟩) 0 n) 0 [] :=
  World.ownsRow_made w _ n hb (by simp [maxLen]; omega) (by simp [fillV])

set_option maxRecDepth 100000 in
set_option maxHeartbeats 2000000 in
theorem mColumns_any (L : LayR) (A0 A1 A2 A3 A4 AM : Option Addr) (n0 n1 n2 n3 n4 nM c0 c1 c2 c3 c4 cM : Nat) (m r : List (List Nat)) (co li qu : List Nat) (w : World) (hL : LayOk L)
    (hm : RRows w [.slice AM nM cM] m) (hr : RRows w [.slice A0 n0 c0] r) (hc : RWd w [.slice A1 n1 c1] co) (hl : RWd w [.slice A2 n2 c2] li) (hq : RWd w [.slice A3 n3 c3] qu)
    (hlen : m.length = r.length) (hml : ∀ x ∈ m, x.length = L.block) (hrl : ∀ x ∈ r, x.length ≤ 2000) (hT : m.length ≤ 400000) (h1 : co.length ≤ 2000) (h2 : li.length ≤ 2000) (h3 : qu.length ≤ 2000) :
    Calls Try.prog 24 #[.agg (layCs L), .slice AM nM cM, .agg #[.slice A0 n0 c0, .slice A1 n1 c1, .slice A2 n2 c2, .slice A3 n3 c3, .slice A4 n4 c4]] w fun e w' => ∃ v, e = .returned v ∧ RRows w' [v] ((List.range L.n).map fun i => (List.range (m.length + 3)).map (colV L (polysP L m r co li qu) i)) ∧ Below w.heap.size w w' := by
  have hp := hL.p
  have hpp := okP_lt hp
  have hb2 := hL.b2
  obtain ⟨hmn, -, -, hMd⟩ := rows_at hm
  obtain ⟨hrn, -, -, hRd⟩ := rows_at hr
  subst hmn
  subst hrn
  have hpl := polysP_len L m r co li qu
  have hps := polysP_short (L := L) (m := m) (r := r) (c := co) (l := li) (q := qu) hb2 hrl h1 h2 h3
  have HEv := Lib.hid (fun A k c l w hl hk => tEvaluate_any L.p A k c L.n L.n.log2 (rowOf L.p).1 l w hp hl (layLenN hL).1 (layLenN hL).2 (gen_mod hp) hk)
  have HGen := Lib.hid (fun w => fGen_any L.p w hp)
  have HCV := Lib.hid (show ∀ ps i, (List.range (m.length + 3)).map (colV L ps i) = (List.range (m.length + 3)).map (fun j => evaP L.p L.n L.n.log2 (ps.getD j []) (rowOf L.p).1 i) from fun _ _ => rfl)
  have HRow := Lib.hid (fun A B n c m d msg masks w hl hk hn hm => mRow_any L A B n c m d msg masks w hL hl hk hn hm)
  have HCo := Lib.hid (fun w' (hb : Below w.heap.size w w') => mCode_any L (.slice A0 r.length c0) (.slice A2 n2 c2) (.slice A3 n3 c3) (.slice A4 n4 c4) A1 n1 c1 co w' ⟨_, _, _, rfl⟩ ⟨_, _, _, rfl⟩ ⟨_, _, _, rfl⟩ ⟨_, _, _, rfl⟩ (kept_RWd _ _ _ _ hb hc) (by have := (lw_at hc).1; omega))
  have HLi := Lib.hid (fun w' (hb : Below w.heap.size w w') => mLinear_any L (.slice A0 r.length c0) (.slice A1 n1 c1) (.slice A3 n3 c3) (.slice A4 n4 c4) A2 n2 c2 li w' hL ⟨_, _, _, rfl⟩ ⟨_, _, _, rfl⟩ ⟨_, _, _, rfl⟩ ⟨_, _, _, rfl⟩ (kept_RWd _ _ _ _ hb hl) (by have := (lw_at hl).1; omega))
  have HQu := Lib.hid (fun w' (hb : Below w.heap.size w w') => mQuad_any L (.slice A0 r.length c0) (.slice A1 n1 c1) (.slice A2 n2 c2) (.slice A4 n4 c4) A3 n3 c3 qu w' hL ⟨_, _, _, rfl⟩ ⟨_, _, _, rfl⟩ ⟨_, _, _, rfl⟩ ⟨_, _, _, rfl⟩ (kept_RWd _ _ _ _ hb hq) (by have := (lw_at hq).1; omega))
  have hlt1 := (lw_at hc).2.2.2.1
  have hlt2 := (lw_at hl).2.2.2.1
  have e1 := (lw_at hc).1
  have e2 := (lw_at hl).1
  have e3 := (lw_at hq).1
  have HLT := Lib.hid (And.intro hlt1 hlt2)
  subst e1 e2 e3
  clear hlt1 hlt2 hc hl hq hm hr
  have HLEN := Lib.hid hlen
  have HML := Lib.hid hml
  have HRL := Lib.hid hrl
  have HPP := Lib.hid hpp
  have HL := Lib.hid hL
  have hn2 := hL.n2
  have hmin : min (m.length : Int) (r.length : Int) = (m.length : Int) := Int.min_eq_left (by omega)
  obtain ⟨T, hTT⟩ : ∃ T, T = m.length := ⟨_, rfl⟩
  obtain ⟨M, hMM⟩ : ∃ M, M = m.length + 3 := ⟨_, rfl⟩
  have x1 : (m.length : Int) + 3 = (M : Int) := by omega
  have x2 : IntKind.i64.wrap (M : Int) = (M : Int) := wr_i64 _ (by omega) (by omega)
  have x3 : (M : Int) ≤ 400003 := by omega
  have x4 : (0 : Int) ≤ (M : Int) := by omega
  have x5 : (m.length : Int) ≤ 400000 := by omega
  have hM1 : M ≤ 400003 := by omega
  have hM1' : M ≤ 1000000 := by omega
  rw [← hMM]
  have HMM := Lib.hid hMM
  rw [← hMM] at hpl HCV
  obtain ⟨ps, hpe⟩ : ∃ ps, ps = polysP L m r co li qu := ⟨_, rfl⟩
  rw [← hpe] at hpl hps ⊢
  have HPE := Lib.hid (show polyRows L m r m.length ++ [co, mlinP L li, quadP L qu] = ps from hpe.symm)
  have HPL := Lib.hid hpl
  have HPS := Lib.hid hps
  replace HCV := Lib.hid (HCV.out ps)
  clear hpe hpl hps
  obtain ⟨gen, hgen⟩ : ∃ gen, gen = (rowOf L.p).1 := ⟨_, rfl⟩
  rw [← hgen] at HEv HGen HCV
  clear hgen
  have HFF := Lib.hid (show ∀ k q, evaP L.p L.n L.n.log2 (ps.getD q []) gen k < 18446744073709551616 from fun k q => Nat.lt_trans (evaP_lt (by have := HPP.out; omega) _ _ _ _ _) HPP.out.2)
  have mk0 := mk_rows0 M (by omega)
  have mkC := mk_rows L.n (by omega)
  have mkM := mk_words M (by omega)
  clear hlen hml hrl hpp hL hp hMM hTT
  unfold layCs fv at *
  obtain ⟨kl, kc, kf, hb0, hsz⟩ := boxes3 w 41 39 88 #[.int .u64 (L.p : Int), .int .i64 (L.block : Int), .int .i64 (L.queries : Int), .int .i64 (L.k : Int), .int .i64 (L.n : Int), .int .i64 (L.secret : Int), .int .i64 (L.rows : Int), .int .i64 (L.a : Int), .int .i64 (L.b : Int), .int .i64 (L.b : Int), .int .i64 (L.b : Int)] #[.slice A0 r.length c0, .slice A1 co.length c1, .slice A2 li.length c2, .slice A3 qu.length c3, .slice A4 n4 c4] #[.int .u64 (L.p : Int)]
  go_enter Try.func24, Try.ntmps24
  go_upto_region 2 with fail
  generalize ((w.alloc _).alloc _).alloc _ = w1 at kl kc kf hb0 hsz ⊢
  have HZ := Lib.hid hsz
  clear hsz
  have cc := kc.cell
  go_upto_region 3 with fail
  have hown := own_rows0 M w1.heap.size hM1' w1 (Nat.le_refl _)
  have hal := (Below.refl w1.heap.size w1).alloc (Nat.le_refl _) (.cells (fillV M fun _ => .slice none 0 0) 28)
  have hN1 : w1.heap.size ≤ (w1.alloc (.cells (fillV M fun _ => .slice none 0 0) 28)).heap.size := hal.size
  replace kl := kl.below hal kl.lt
  replace kc := kc.below hal kc.lt
  replace kf := kf.below hal kf.lt
  replace hb0 := below_chain hb0 hal
  clear hal cc mk0
  obtain ⟨N, hNN⟩ : ∃ N, N = w1.heap.size := ⟨_, rfl⟩
  have xN : w.heap.size + 3 ≤ N := by rw [hNN, HZ.out]; omega
  rw [← hNN] at hown hN1 ⊢
  clear hNN HZ
  generalize w1.alloc _ = w2 at kl kc kf hb0 hown hN1 ⊢
  have cc := kc.cell
  go_wp2_with fail
  clear cc
  go_loopw [8, 31] (fun u y wr => ∃ (i : Nat) (v : Value) (cs : List Value), v = u ∧ i ≤ m.length ∧ y = .int .i64 (i : Int) ∧ Blk wr w.heap.size 41 #[.int .u64 (L.p : Int), .int .i64 (L.block : Int), .int .i64 (L.queries : Int), .int .i64 (L.k : Int), .int .i64 (L.n : Int), .int .i64 (L.secret : Int), .int .i64 (L.rows : Int), .int .i64 (L.a : Int), .int .i64 (L.b : Int), .int .i64 (L.b : Int), .int .i64 (L.b : Int)] ∧ Blk wr (w.heap.size + 1) 39 #[.slice A0 r.length c0, .slice A1 co.length c1, .slice A2 li.length c2, .slice A3 qu.length c3, .slice A4 n4 c4] ∧ Blk wr (w.heap.size + 1 + 1) 88 #[.int .u64 (L.p : Int)] ∧ wr.ownsRow N 28 1 v i cs ∧ GRows N wr v cs (polyRows L m r i) ∧ Below w.heap.size w wr ∧ N ≤ wr.heap.size) (fun _ y _ => m.length - (intOf y).toNat)
  case atStart => exact ⟨0, _, [], rfl, Nat.zero_le _, rfl, kl, kc, kf, hown, grows_nil _ _ _, hb0, hN1⟩
  case round =>
    clear kl kc kf hown hb0 hN1
    obtain ⟨i, v, cs, rfl, hi, rfl, kl, kc, kf, hown, hgr, hb0, hNw⟩ := hrel
    by_cases hlt : i < m.length
    · have q1 : (0 : Int) ≤ (i : Int) := by omega
      have q2 : (i : Int) < (m.length : Int) := by omega
      have q3 : (i : Int) < (r.length : Int) := by have := HLEN.out; omega
      obtain ⟨bm, qm, Am, lm, cm, rfl, hbm0, hcm0, hrm0⟩ := rows_get hMd hlt
      have hcm := (hb0.cell (p := ⟨bm, qm + i, none⟩) hbm0).trans hcm0
      have hrm := kept_RWd _ _ _ _ hb0 hrm0
      have hbm : bm < N := by omega
      obtain ⟨br, qr, Ar, lr, cr, rfl, hbr0, hcr0, hrr0⟩ := rows_get hRd (show i < r.length by have := HLEN.out; omega)
      have hcr := (hb0.cell (p := ⟨br, qr + i, none⟩) hbr0).trans hcr0
      have hrr := kept_RWd _ _ _ _ hb0 hrr0
      have hbr : br < N := by omega
      have z1 := (lw_at hrm).1
      have z2 := (lw_at hrr).1
      have z3 : lm = L.block := by have := HML.out _ (List.getElem_mem hlt); omega
      have z4 : lr ≤ 2000 := by have := HRL.out _ (List.getElem_mem (show i < r.length by have := HLEN.out; omega)); omega
      have HC := Lib.hid (fun w' (hb : Below wr.heap.size wr w') => HRow.out Am Ar lm cm lr cr m[i] _ w' (kept_RWd _ _ _ _ hb hrm) (kept_RWd _ _ _ _ hb hrr) z3 (by omega))
      have HPR := Lib.hid (show (List.range (L.block + lr)).map (mrowP L m[i] (r[i]'(by have := HLEN.out; omega))) = polyRow L m r i by
        unfold polyRow
        rw [List.getD_eq_getElem?_getD, List.getD_eq_getElem?_getD, List.getElem?_eq_getElem hlt, List.getElem?_eq_getElem (show i < r.length by have := HLEN.out; omega)]
        simp only [Option.getD_some]
        first | rw [z2] | rw [← z2])
      have HMX := Lib.hid (show ∀ k, mrowP L m[i] (r[i]'(by have := HLEN.out; omega)) k < 18446744073709551616 from fun k => Nat.lt_trans (mrowP_lt (by have := HPP.out; omega) _ _ _) HPP.out.2)
      have HNX := Lib.hid (polyRows_next L m r i)
      revert HC HPR HMX
      generalize mrowP L m[i] (r[i]'(by have := HLEN.out; omega)) = PF
      intro HC HPR HMX
      clear z1 z2 z3 hrm hrr hrm0 hrr0 hcm0 hcr0
      have n1 : w.heap.size < N := by omega
      have n2 : w.heap.size + 1 < N := by omega
      have cl := kl.cell
      have ll := kl.lt
      have cc := kc.cell
      have lc := kc.lt
      go_upto_region 6 with fail
      refine wpO_begin (From N) [11, 12, 13] [0, 1, 2, 3, 4, 5, 6, 7, 8, 9, 10, 11, 12, 13, 14] (by kernel_rfl) (by kernel_rfl) ?_
      refine wpO_startK (from_moves N) ?_
      intro Wc HWc hacc
      repeat (first | (refine wpO_skip (from_moves N) rfl rfl (fun _ _ _ h => h) ?_ ; simp only [Act.put, List.setIfInBounds_toArray, List.set_cons_zero, List.set_cons_succ]) | (refine wpO_light (v := ?_) (from_moves N) rfl rfl (fun _ _ _ h => h) ?_ ?_ ; rotate_left ; (· (intro w' hR ; (first | have hcells := from_cellsD ((from_moves N).trans _ _ _ hacc hR) | skip) ; go_simp ; try with_reducible rfl)) ; simp only [Act.put, List.setIfInBounds_toArray, List.set_cons_zero, List.set_cons_succ]))
      have hbW : Below wr.heap.size wr Wc := by rw [HWc.out]; exact (Below.refl _ _).drew
      have hNc := hbW.size
      have hNw0 := hNw
      refine wpO_call (from_moves N) rfl rfl rfl (fun _ => by go_simp <;> rfl) ((HC.out _ hbW).mono ?_)
      rintro e w3 ⟨g', rfl, hg', kg', hb3⟩
      refine ⟨_, rfl, from_later hb3 (Nat.le_trans hNw0 hNc), ?_⟩
      replace hacc := (from_moves N).trans _ _ _ hacc (from_later hb3 (Nat.le_trans hNw0 hNc))
      simp only [Act.put, List.setIfInBounds_toArray, List.set_cons_zero, List.set_cons_succ]
      have hb4 := below_chain hbW hb3
      have hNg : N ≤ g' := by omega
      have hvg : some g' ≠ v.ownBlock := fun e => by have := (hown.lt _ e.symm).2; omega
      replace kl := kl.below hb4 kl.lt
      replace kc := kc.below hb4 kc.lt
      replace kf := kf.below hb4 kf.lt
      replace hown := own_below hown hb4 (Nat.le_refl _)
      replace hgr := grows_below hgr hb4
      replace hb0 := below_chain hb0 hb4
      replace hNw := Nat.le_trans hNw hb4.size
      have hNd := Nat.le_trans hNc hb3.size
      have hrx : RWx N v.ownBlock w3 (.slice (some ⟨g', 0, none⟩) (L.block + lr) (L.block + lr)) (polyRow L m r i) := by
        rw [← HPR.out]
        exact rwx_fill kg' (fun k _ => HMX.out k) (by simp [maxLen]; omega) hNg hvg
      have HNd := Lib.hid (And.intro hNd (show wr.heap.size ≤ w3.heap.size from hb4.size))
      clear kg' hb3 hb4 hNg hvg hg' hNc hbW HC HWc hacc cl ll cc lc hNd
      have hacc := (from_moves N).refl w3
      repeat (first | (refine wpO_skip (from_moves N) rfl rfl (fun _ _ _ h => h) ?_ ; simp only [Act.put, List.setIfInBounds_toArray, List.set_cons_zero, List.set_cons_succ]) | (refine wpO_light (v := ?_) (from_moves N) rfl rfl (fun _ _ _ h => h) ?_ ?_ ; rotate_left ; (· (intro w' hR ; (first | have hcells := from_cellsD ((from_moves N).trans _ _ _ hacc hR) | skip) ; go_simp ; try with_reducible rfl)) ; simp only [Act.put, List.setIfInBounds_toArray, List.set_cons_zero, List.set_cons_succ]))
      refine wpO_heavy (from_moves N) rfl rfl rfl ?_
      go_simp
      refine ⟨from_later ((Below.refl _ _).alloc (Nat.le_refl _) _) hNw, ?_⟩
      have hal := (Below.refl w3.heap.size w3).alloc (Nat.le_refl _) (.cells #[.slice (some ⟨g', 0, none⟩) (L.block + lr) (L.block + lr)] 28)
      have hrd := rd_one w3 (.slice (some ⟨g', 0, none⟩) (L.block + lr) (L.block + lr)) 28
      replace hrx := rwx_keep hrx hal.size (fun b _ h2 _ => hal.block b h2)
      replace kl := kl.below hal kl.lt
      replace kc := kc.below hal kc.lt
      replace kf := kf.below hal kf.lt
      replace hown := own_below hown hal (Nat.le_refl _)
      replace hgr := grows_below hgr hal
      replace hb0 := below_chain hb0 hal
      replace hNw := Nat.le_trans hNw hal.size
      have HNe := Lib.hid (Nat.le_trans HNd.out.2 hal.size)
      try simp only [Act.put, List.setIfInBounds_toArray, List.set_cons_zero, List.set_cons_succ]
      generalize w3.alloc _ = w4 at kl kc kf hown hgr hrx hb0 hrd hNw HNe ⊢
      generalize w3.heap.size = g7 at hrd ⊢
      clear hal HNd hacc
      have hacc := (from_moves N).refl w4
      repeat (first | (refine wpO_skip (from_moves N) rfl rfl (fun _ _ _ h => h) ?_ ; simp only [Act.put, List.setIfInBounds_toArray, List.set_cons_zero, List.set_cons_succ]) | (refine wpO_light (v := ?_) (from_moves N) rfl rfl (fun _ _ _ h => h) ?_ ?_ ; rotate_left ; (· (intro w' hR ; (first | have hcells := from_cellsD ((from_moves N).trans _ _ _ hacc hR) | skip) ; go_simp ; try with_reducible rfl)) ; simp only [Act.put, List.setIfInBounds_toArray, List.set_cons_zero, List.set_cons_succ]))
      refine wpO_heavy (from_moves N) rfl rfl rfl ?_
      refine wp_append_rd _ _ rfl el_ww rfl hown rfl hrd (by intro u hu; simp at hu; subst hu; rfl) (by omega) hNw ?_
      intro v' wn hown' hgrow hblk
      have hvb : ∀ q, v.ownBlock = some q → N ≤ q := fun q e => (hown.lt q e).1
      have hBn := lw_grow hown hgrow hNw
      refine ⟨hBn, ?_⟩
      have hgn := grows_app hgr hrx hgrow hblk
      rw [HNX.out] at hgn
      replace kl := kl.grown hgrow (fun e => by have := hvb _ e.symm; omega)
      replace kc := kc.grown hgrow (fun e => by have := hvb _ e.symm; omega)
      replace kf := kf.grown hgrow (fun e => by have := hvb _ e.symm; omega)
      replace hb0 := hb0.trans (hBn.mono (by omega))
      have hNn : N ≤ wn.heap.size := by have := hgrow.size; omega
      clear hown hgr hrx hgrow hblk hvb hrd hacc hBn HNe hNw
      have hacc := (from_moves N).refl wn
      try simp only [Act.put, List.setIfInBounds_toArray, List.set_cons_zero, List.set_cons_succ]
      repeat (first | (refine wpO_skip (from_moves N) rfl rfl (fun _ _ _ h => h) ?_ ; simp only [Act.put, List.setIfInBounds_toArray, List.set_cons_zero, List.set_cons_succ]) | (refine wpO_light (v := ?_) (from_moves N) rfl rfl (fun _ _ _ h => h) ?_ ?_ ; rotate_left ; (· (intro w' hR ; (first | have hcells := from_cellsD ((from_moves N).trans _ _ _ hacc hR) | skip) ; go_simp ; try with_reducible rfl)) ; simp only [Act.put, List.setIfInBounds_toArray, List.set_cons_zero, List.set_cons_succ]))
      refine wpO_done ?_
      go_wp2
      go_roundw
      case rel => exact ⟨i + 1, v', _, rfl, by omega, by go_num, kl, kc, kf, hown', hgn, hb0, hNn⟩
      case measure => simp [intOf]; omega
    · obtain rfl : i = m.length := by omega
      have g2 : ¬ ((m.length : Int) < (m.length : Int)) := by omega
      clear hMd hRd HRow
      have cl := kl.cell
      have cc := kc.cell
      have n1 : w.heap.size < N := by omega
      have n2 : w.heap.size + 1 < N := by omega
      go_upto_region 8 with fail
      refine wpO_begin (From N) [3, 6, 9, 10, 11] [0, 1, 2, 4, 5, 7, 8, 3, 6, 9, 10, 11, 12] (by kernel_rfl) (by kernel_rfl) ?_
      refine wpO_startK (from_moves N) ?_
      intro Wc HWc hacc
      repeat (first | (refine wpO_skip (from_moves N) rfl rfl (fun _ _ _ h => h) ?_ ; simp only [Act.put, List.setIfInBounds_toArray, List.set_cons_zero, List.set_cons_succ]) | (refine wpO_light (v := ?_) (from_moves N) rfl rfl (fun _ _ _ h => h) ?_ ?_ ; rotate_left ; (· (intro w' hR ; (first | have hcells := from_cellsD ((from_moves N).trans _ _ _ hacc hR) | skip) ; go_simp ; try with_reducible rfl)) ; simp only [Act.put, List.setIfInBounds_toArray, List.set_cons_zero, List.set_cons_succ]))
      have hbW : Below wr.heap.size wr Wc := by rw [HWc.out]; exact (Below.refl _ _).drew
      replace kl := kl.below hbW kl.lt
      replace kc := kc.below hbW kc.lt
      replace kf := kf.below hbW kf.lt
      replace hown := own_below hown hbW (Nat.le_refl _)
      replace hgr := grows_below hgr hbW
      replace hb0 := below_chain hb0 hbW
      replace hNw := Nat.le_trans hNw hbW.size
      clear hbW HWc cl cc
      refine wpO_call (from_moves N) rfl rfl rfl (fun _ => by go_simp <;> rfl) ((HCo.out _ hb0).mono ?_)
      rintro e w3 ⟨v1, rfl, o1, hb3⟩
      refine ⟨_, rfl, from_later hb3 hNw, ?_⟩
      replace hacc := (from_moves N).trans _ _ _ hacc (from_later hb3 hNw)
      simp only [Act.put, List.setIfInBounds_toArray, List.set_cons_zero, List.set_cons_succ]
      have hv1 : ∀ q, v.ownBlock = some q → q < Wc.heap.size := fun q e => (hown.lt q e).2
      have hx1 : RWx N v.ownBlock w3 v1 co := rwx_own o1 HLT.out.1 hNw hv1
      obtain ⟨A1', c1', rfl, -⟩ := own_form o1
      replace kl := kl.below hb3 kl.lt
      replace kc := kc.below hb3 kc.lt
      replace kf := kf.below hb3 kf.lt
      replace hown := own_below hown hb3 (Nat.le_refl _)
      replace hgr := grows_below hgr hb3
      replace hb0 := below_chain hb0 hb3
      replace hNw := Nat.le_trans hNw hb3.size
      clear hb3 o1 hacc hv1
      have hacc := (from_moves N).refl w3
      refine wpO_call (from_moves N) rfl rfl rfl (fun _ => by go_simp <;> rfl) ((HLi.out _ hb0).mono ?_)
      rintro e w4 ⟨v2, rfl, o2, hb4⟩
      refine ⟨_, rfl, from_later hb4 hNw, ?_⟩
      replace hacc := (from_moves N).trans _ _ _ hacc (from_later hb4 hNw)
      simp only [Act.put, List.setIfInBounds_toArray, List.set_cons_zero, List.set_cons_succ]
      have hv2 : ∀ q, v.ownBlock = some q → q < w3.heap.size := fun q e => (hown.lt q e).2
      have hx2 : RWx N v.ownBlock w4 v2 (mlinP L li) := rwx_own o2 (by
        have hp := HPP.out
        intro x hx
        rcases List.mem_cons.1 hx with rfl | hx
        · exact Nat.lt_trans (linA_lt (by omega) _ _) hp.2
        · exact HLT.out.2 x hx) hNw hv2
      obtain ⟨A2', c2', rfl, -⟩ := own_form o2
      replace hx1 := rwx_keep hx1 hb4.size (fun b _ h2 _ => hb4.block b h2)
      replace kl := kl.below hb4 kl.lt
      replace kc := kc.below hb4 kc.lt
      replace kf := kf.below hb4 kf.lt
      replace hown := own_below hown hb4 (Nat.le_refl _)
      replace hgr := grows_below hgr hb4
      replace hb0 := below_chain hb0 hb4
      replace hNw := Nat.le_trans hNw hb4.size
      clear hb4 o2 hacc hv2
      have hacc := (from_moves N).refl w4
      refine wpO_call (from_moves N) rfl rfl rfl (fun _ => by go_simp <;> rfl) ((HQu.out _ hb0).mono ?_)
      rintro e w5 ⟨g3, rfl, hg3, k3, hb5⟩
      refine ⟨_, rfl, from_later hb5 hNw, ?_⟩
      replace hacc := (from_moves N).trans _ _ _ hacc (from_later hb5 hNw)
      simp only [Act.put, List.setIfInBounds_toArray, List.set_cons_zero, List.set_cons_succ]
      have hv3 : some g3 ≠ v.ownBlock := fun e => by have := (hown.lt _ e.symm).2; omega
      have hx3 : RWx N v.ownBlock w5 (.slice (some ⟨g3, 0, none⟩) (L.block + qu.length) (L.block + qu.length)) (quadP L qu) :=
        rwx_fill k3 (fun k _ => Nat.lt_trans (vanP_lt (by have := HPP.out; omega) _ _ _) HPP.out.2) (by simp [maxLen]; omega) (by omega) hv3
      replace hx1 := rwx_keep hx1 hb5.size (fun b _ h2 _ => hb5.block b h2)
      replace hx2 := rwx_keep hx2 hb5.size (fun b _ h2 _ => hb5.block b h2)
      replace kl := kl.below hb5 kl.lt
      replace kc := kc.below hb5 kc.lt
      replace kf := kf.below hb5 kf.lt
      replace hown := own_below hown hb5 (Nat.le_refl _)
      replace hgr := grows_below hgr hb5
      replace hb0 := below_chain hb0 hb5
      replace hNw := Nat.le_trans hNw hb5.size
      clear hb5 k3 hg3 hacc hv3 HCo HLi HQu kc
      have hacc := (from_moves N).refl w5
      refine wpO_heavy (from_moves N) rfl rfl rfl ?_
      go_simp
      refine ⟨from_later ((Below.refl _ _).alloc (Nat.le_refl _) _) hNw, ?_⟩
      have hal := (Below.refl w5.heap.size w5).alloc (Nat.le_refl _) (.cells #[.slice A1' co.length c1', .slice A2' (li.length + 1) c2', .slice (some ⟨g3, 0, none⟩) (L.block + qu.length) (L.block + qu.length)] 28)
      have hrd := rd_three w5 (.slice A1' co.length c1') (.slice A2' (li.length + 1) c2') (.slice (some ⟨g3, 0, none⟩) (L.block + qu.length) (L.block + qu.length)) 28
      replace hx1 := rwx_keep hx1 hal.size (fun b _ h2 _ => hal.block b h2)
      replace hx2 := rwx_keep hx2 hal.size (fun b _ h2 _ => hal.block b h2)
      replace hx3 := rwx_keep hx3 hal.size (fun b _ h2 _ => hal.block b h2)
      replace kl := kl.below hal kl.lt
      replace kf := kf.below hal kf.lt
      replace hown := own_below hown hal (Nat.le_refl _)
      replace hgr := grows_below hgr hal
      replace hb0 := below_chain hb0 hal
      replace hNw := Nat.le_trans hNw hal.size
      try simp only [Act.put, List.setIfInBounds_toArray, List.set_cons_zero, List.set_cons_succ]
      generalize w5.alloc _ = w6 at kl kf hown hgr hx1 hx2 hx3 hb0 hrd hNw ⊢
      generalize w5.heap.size = g7 at hrd ⊢
      clear hal hacc
      have hacc := (from_moves N).refl w6
      repeat (first | (refine wpO_skip (from_moves N) rfl rfl (fun _ _ _ h => h) ?_ ; simp only [Act.put, List.setIfInBounds_toArray, List.set_cons_zero, List.set_cons_succ]) | (refine wpO_light (v := ?_) (from_moves N) rfl rfl (fun _ _ _ h => h) ?_ ?_ ; rotate_left ; (· (intro w' hR ; (first | have hcells := from_cellsD ((from_moves N).trans _ _ _ hacc hR) | skip) ; go_simp ; try with_reducible rfl)) ; simp only [Act.put, List.setIfInBounds_toArray, List.set_cons_zero, List.set_cons_succ]))
      refine wpO_heavy (from_moves N) rfl rfl rfl ?_
      refine wp_append_rd _ _ rfl el_ww rfl hown rfl hrd (by intro u hu; simp at hu; rcases hu with rfl | rfl | rfl <;> rfl) (by omega) hNw ?_
      intro v' wn hown' hgrow hblk
      have hvb : ∀ q, v.ownBlock = some q → N ≤ q := fun q e => (hown.lt q e).1
      have hBn := lw_grow hown hgrow hNw
      refine ⟨hBn, ?_⟩
      have hgn := grows_app3 hgr hx1 hx2 hx3 hgrow hblk
      replace kl := kl.grown hgrow (fun e => by have := hvb _ e.symm; omega)
      replace kf := kf.grown hgrow (fun e => by have := hvb _ e.symm; omega)
      replace hb0 := hb0.trans (hBn.mono (by omega))
      have hrows := grows_done hgn hown'
      clear hown hgr hx1 hx2 hx3 hgrow hblk hvb hrd hacc hBn hNw hgn
      have hacc := (from_moves N).refl wn
      try simp only [Act.put, List.setIfInBounds_toArray, List.set_cons_zero, List.set_cons_succ]
      repeat (first | (refine wpO_skip (from_moves N) rfl rfl (fun _ _ _ h => h) ?_ ; simp only [Act.put, List.setIfInBounds_toArray, List.set_cons_zero, List.set_cons_succ]) | (refine wpO_light (v := ?_) (from_moves N) rfl rfl (fun _ _ _ h => h) ?_ ?_ ; rotate_left ; (· (intro w' hR ; (first | have hcells := from_cellsD ((from_moves N).trans _ _ _ hacc hR) | skip) ; go_simp ; try with_reducible rfl)) ; simp only [Act.put, List.setIfInBounds_toArray, List.set_cons_zero, List.set_cons_succ]))
      refine wpO_done ?_
      rw [HPE.out] at hrows
      rw [← HMM.out] at hown'
      obtain ⟨Ap, cp, rfl, hcp, -⟩ := own_form hown'
      clear hown' hacc HPE HMM HLEN HML HRL HLT
      obtain ⟨-, -, hcm, hPd⟩ := rows_at hrows
      obtain ⟨gC, hgC⟩ : ∃ gC, gC = wn.heap.size := ⟨_, rfl⟩
      have y0 : w.heap.size + 3 ≤ gC := by rw [hgC]; have := hb0.size; have := kf.lt; omega
      have lM : M ≤ maxLen := by simp [maxLen]; omega
      have hmaxn : max (0 : Int) (L.n : Int) = (L.n : Int) := Int.max_eq_right (by omega)
      have xn : (L.n : Int) ≤ 1024 := by omega
      have cl := kl.cell
      go_upto_region 10 with fail
      have kC := Blk.new wn 28 (fillV L.n fun _ => .slice none 0 0)
      have hal := (Below.refl wn.heap.size wn).alloc (Nat.le_refl _) (.cells (fillV L.n fun _ => .slice none 0 0) 28)
      have hs7 : (wn.alloc (.cells (fillV L.n fun _ => .slice none 0 0) 28)).heap.size = gC + 1 := by rw [hgC]; simp
      rw [← hgC] at kC hal ⊢
      clear cl mkC
      generalize wn.alloc _ = w7 at kC hal hs7 ⊢
      rw [fillV_same (g := fun k => if k < 0 then mkS M (gC + 1 + k) else .slice none 0 0) (fun k _ => by simp)] at kC
      have HGC := Lib.hid hgC
      have HS7 := Lib.hid hs7
      clear hgC hs7
      go_wp2_with fail
      go_loopw [67] (fun y wr => ∃ i : Nat, i ≤ L.n ∧ y = .int .i64 (i : Int) ∧ Blk wr gC 28 (fillV L.n fun k => if k < i then mkS M (gC + 1 + k) else .slice none 0 0) ∧ Hid (∀ k, k < i → Blk wr (gC + 1 + k) 22 (fillC M fun _ => 0)) ∧ Hid (wr.heap.size = gC + 1 + i) ∧ Below gC wn wr) (fun y _ => L.n - (intOf y).toNat)
      case atStart => exact ⟨0, Nat.zero_le _, rfl, kC, fun k h => by omega, HS7.out, hal⟩
      case round =>
        clear kC hal HS7
        obtain ⟨i, hi, rfl, kC, HK, HSZ, hbn⟩ := hrel
        by_cases hlt : i < L.n
        · have q1 : (0 : Int) ≤ (i : Int) := by omega
          have q2 : (i : Int) < (L.n : Int) := by omega
          have cC := kC.cell i
          rw [fillV_get _ hlt, if_neg (Nat.lt_irrefl i)] at cC
          have lC := kC.lt
          have fC := kC.frozen
          go_wp2_with fail
          have hgi := HSZ.out
          rw [hgi]
          have hg := set_only (w := wr) gC i (mkS M (gC + 1 + i))
          replace kC := kC.set_ i (mkS M (gC + 1 + i))
          rw [fillV_set, fillV_same (g := fun k => if k < i + 1 then mkS M (gC + 1 + k) else .slice none 0 0) (fun k _ => by
            by_cases e : k = i
            · subst e; simp
            · rw [if_neg e]
              by_cases e2 : k < i
              · rw [if_pos e2, if_pos (by omega)]
              · rw [if_neg e2, if_neg (by omega)])] at kC
          have HK2 : Hid (∀ k, k < i → Blk (wr.setCell ⟨gC, i, none⟩ (mkS M (gC + 1 + i))) (gC + 1 + k) 22 (fillC M fun _ => 0)) := fun k h => (HK.out k h).grown hg (fun e => by have := Option.some.inj e; omega)
          have hsz8 : (wr.setCell ⟨gC, i, none⟩ (mkS M (gC + 1 + i))).heap.size = gC + 1 + i := by simp [World.setCell]; exact hgi
          replace hbn := hbn.trans (below_of_only hg (by have := hbn.size; have := HGC.out; omega) (Nat.le_refl _))
          clear hg HK hgi HSZ cC fC lC
          generalize wr.setCell _ _ = w8 at kC HK2 hsz8 hbn ⊢
          have hal := (Below.refl w8.heap.size w8).alloc (Nat.le_refl _) (.cells (fillC M fun _ => 0) 22)
          have kN := Blk.new w8 22 (fillC M fun _ => 0)
          have HSN := Lib.hid (show (w8.alloc (.cells (fillC M fun _ => 0) 22)).heap.size = gC + 1 + (i + 1) by simp; omega)
          rw [hsz8] at kN
          replace kC := kC.below hal kC.lt
          have HK3 : Hid (∀ k, k < i + 1 → Blk (w8.alloc (.cells (fillC M fun _ => 0) 22)) (gC + 1 + k) 22 (fillC M fun _ => 0)) := fun k h => by
            by_cases e : k = i
            · subst e; exact kN
            · exact (HK2.out k (by omega)).below hal (HK2.out k (by omega)).lt
          replace hbn := hbn.trans (hal.mono (by omega))
          clear hal kN HK2 hsz8
          generalize w8.alloc _ = w9 at kC HK3 HSN hbn ⊢
          go_roundw
          case rel => exact ⟨i + 1, by omega, by go_num, kC, HK3, HSN, hbn⟩
          case measure => simp [intOf]; omega
        · obtain rfl : i = L.n := by omega
          rw [fillV_same (g := fun k => mkS M (gC + 1 + k)) (fun k hk => if_pos hk)] at kC
          have hs9 : gC + 1 + L.n ≤ wr.heap.size := by rw [HSZ.out]; omega
          have HK2 : Hid (∀ k, k < L.n → Blk wr (gC + 1 + k) 22 (fillC M fun q => if q < 0 then evaP L.p L.n L.n.log2 (ps.getD q []) gen k else 0)) := fun k h => by
            have := HK.out k h
            rw [fill_same (g := fun q => if q < 0 then evaP L.p L.n L.n.log2 (ps.getD q []) gen k else 0) (fun q _ => by simp)] at this
            exact this
          clear HK HSZ mkM
          go_wp2_with fail
          go_loopw [79] (fun y wr => ∃ j : Nat, j ≤ M ∧ y = .int .i64 (j : Int) ∧ Blk wr gC 28 (fillV L.n fun k => mkS M (gC + 1 + k)) ∧ Hid (∀ k, k < L.n → Blk wr (gC + 1 + k) 22 (fillC M fun q => if q < j then evaP L.p L.n L.n.log2 (ps.getD q []) gen k else 0)) ∧ gC + 1 + L.n ≤ wr.heap.size ∧ Below gC wn wr) (fun y _ => M - (intOf y).toNat)
          case atStart => exact ⟨0, Nat.zero_le _, rfl, kC, HK2, hs9, hbn⟩
          case round =>
            clear kC HK2 hs9 hbn
            obtain ⟨j, hj, rfl, kC, HK, hsz, hbn⟩ := hrel
            by_cases hlt : j < M
            · have q1 : (0 : Int) ≤ (j : Int) := by omega
              have q2 : (j : Int) < (M : Int) := by omega
              obtain ⟨bp, qp, Aj, lj, cj, rfl, hbp, hcp', hrp⟩ := rows_get hPd (show j < ps.length by rw [HPL.out]; exact hlt)
              have hbp2 : bp < gC := by rw [HGC.out]; exact hbp
              have hcj := (hbn.cell (p := ⟨bp, qp + j, none⟩) hbp2).trans hcp'
              have hbn2 : Below wn.heap.size wn wr := by rw [← HGC.out]; exact hbn
              have hrj := kept_RWd _ _ _ _ hbn2 hrp
              have hgd : ps[j]'(by rw [HPL.out]; exact hlt) = ps.getD j [] := by rw [List.getD_eq_getElem?_getD, List.getElem?_eq_getElem]; rfl
              have hlj : lj ≤ 8192 := by have h1 := HPS.out _ (List.getElem_mem (show j < ps.length by rw [HPL.out]; exact hlt)); have h2 := (lw_at hrp).1; omega
              rw [hgd] at hrj
              have HE := Lib.hid (fun w' (hb : Below wr.heap.size wr w') => HEv.out Aj lj cj (ps.getD j []) w' (kept_RWd _ _ _ _ hb hrj) hlj)
              have kl' := kl.below hbn (show w.heap.size < gC by omega)
              have kf' := kf.below hbn (show w.heap.size + 1 + 1 < gC by omega)
              have cl := kl'.cell
              have ll := kl'.lt
              have cf := kf'.cell
              have lf := kf'.lt
              clear hcp' hrp hrj hgd hbn2
              have hbpw : bp < wr.heap.size := by omega
              go_upto_region 18 with fail
              refine wpO_begin (Later) [3, 6] [0, 1, 2, 4, 5, 3, 6, 7, 8, 9, 10, 11] (by kernel_rfl) (by kernel_rfl) ?_
              refine wpO_startK (later_moves) ?_
              intro Wc HWc hacc
              repeat (first | (refine wpO_skip (later_moves) rfl rfl (fun _ _ _ h => h) ?_ ; simp only [Act.put, List.setIfInBounds_toArray, List.set_cons_zero, List.set_cons_succ]) | (refine wpO_light (v := ?_) (later_moves) rfl rfl (fun _ _ _ h => h) ?_ ?_ ; rotate_left ; (· (intro w' hR ; (first | have hcells := later_cellsD ((later_moves).trans _ _ _ hacc hR) | skip) ; go_simp ; try with_reducible rfl)) ; simp only [Act.put, List.setIfInBounds_toArray, List.set_cons_zero, List.set_cons_succ]))
              have hbW : Below wr.heap.size wr Wc := by rw [HWc.out]; exact (Below.refl _ _).drew
              refine wpO_call (later_moves) rfl rfl rfl (fun _ => by go_simp <;> rfl) ((HGen.out _).mono ?_)
              rintro e w3 ⟨rfl, hb3⟩
              refine ⟨_, rfl, hb3, ?_⟩
              replace hacc := (later_moves).trans _ _ _ hacc (hb3)
              simp only [Act.put, List.setIfInBounds_toArray, List.set_cons_zero, List.set_cons_succ]
              have hb4 := below_chain hbW hb3
              repeat (first | (refine wpO_skip (later_moves) rfl rfl (fun _ _ _ h => h) ?_ ; simp only [Act.put, List.setIfInBounds_toArray, List.set_cons_zero, List.set_cons_succ]) | (refine wpO_light (v := ?_) (later_moves) rfl rfl (fun _ _ _ h => h) ?_ ?_ ; rotate_left ; (· (intro w' hR ; (first | have hcells := later_cellsD ((later_moves).trans _ _ _ hacc hR) | skip) ; go_simp ; try with_reducible rfl)) ; simp only [Act.put, List.setIfInBounds_toArray, List.set_cons_zero, List.set_cons_succ]))
              refine wpO_call (later_moves) rfl rfl rfl (fun _ => by go_simp <;> rfl) ((HE.out _ hb4).mono ?_)
              rintro e w5 ⟨gv, rfl, hgv, kv, hb5⟩
              refine ⟨_, rfl, hb5, ?_⟩
              replace hacc := (later_moves).trans _ _ _ hacc (hb5)
              simp only [Act.put, List.setIfInBounds_toArray, List.set_cons_zero, List.set_cons_succ]
              have hb6 := below_chain hb4 hb5
              have hgv2 : wr.heap.size ≤ gv := Nat.le_trans hb4.size hgv
              replace kC := kC.below hb6 kC.lt
              have HK2 : Hid (∀ k, k < L.n → Blk w5 (gC + 1 + k) 22 (fillC M fun q => if q < j ∨ (q = j ∧ k < 0) then evaP L.p L.n L.n.log2 (ps.getD q []) gen k else 0)) := fun k h => by
                have := (HK.out k h).below hb6 (HK.out k h).lt
                rw [fill_same (g := fun q => if q < j ∨ (q = j ∧ k < 0) then evaP L.p L.n L.n.log2 (ps.getD q []) gen k else 0) (fun q _ => by simp)] at this
                exact this
              have hbn3 := hbn.trans (hb6.mono (by omega))
              have hsz2 := Nat.le_trans hsz hb6.size
              have hgv3 : gC + 1 + L.n ≤ gv := by omega
              clear hbW hb3 hb4 hb5 hb6 HWc hacc HK hbn hsz cl ll cf lf kl' kf' HE hcj hgv
              repeat (first | (refine wpO_skip (later_moves) rfl rfl (fun _ _ _ h => h) ?_ ; simp only [Act.put, List.setIfInBounds_toArray, List.set_cons_zero, List.set_cons_succ]) | (refine wpO_light (v := ?_) (later_moves) rfl rfl (fun _ _ _ h => h) ?_ ?_ ; rotate_left ; (· (intro w' hR ; (first | have hcells := later_cellsD ((later_moves).trans _ _ _ hacc hR) | skip) ; go_simp ; try with_reducible rfl)) ; simp only [Act.put, List.setIfInBounds_toArray, List.set_cons_zero, List.set_cons_succ]))
              refine wpO_done ?_
              obtain ⟨V, hV⟩ : ∃ V : Nat → Nat → Nat, V = fun q k => evaP L.p L.n L.n.log2 (ps.getD q []) gen k := ⟨_, rfl⟩
              have HV := Lib.hid hV
              rw [show evaP L.p L.n L.n.log2 (ps.getD j []) gen = V j by rw [hV]] at kv
              replace HK2 : Hid (∀ k, k < L.n → Blk w5 (gC + 1 + k) 22 (fillC M fun q => if q < j ∨ (q = j ∧ k < 0) then V q k else 0)) := by rw [hV]; exact HK2
              clear hV
              go_wp2_with fail
              go_loopw [96] (fun y wr => ∃ i : Nat, i ≤ L.n ∧ y = .int .i64 (i : Int) ∧ Blk wr gC 28 (fillV L.n fun k => mkS M (gC + 1 + k)) ∧ Hid (∀ k, k < L.n → Blk wr (gC + 1 + k) 22 (fillC M fun q => if q < j ∨ (q = j ∧ k < i) then V q k else 0)) ∧ gC + 1 + L.n ≤ wr.heap.size ∧ Below gC wn wr ∧ Blk wr gv 22 (fillC L.n (V j))) (fun y _ => L.n - (intOf y).toNat)
              case atStart => exact ⟨0, Nat.zero_le _, rfl, kC, HK2, hsz2, hbn3, kv⟩
              case round =>
                clear kC HK2 hsz2 hbn3 kv
                obtain ⟨i, hi, rfl, kC, HK, hsz, hbn, kv⟩ := hrel
                by_cases hlti : i < L.n
                · have p1 : (0 : Int) ≤ (i : Int) := by omega
                  have p2 : (i : Int) < (L.n : Int) := by omega
                  obtain ⟨x, hx⟩ : ∃ x, x = V j i := ⟨_, rfl⟩
                  have cv := kv.cell i
                  rw [fill_get _ hlti, ← hx] at cv
                  have lv := kv.lt
                  have cC := kC.cell i
                  rw [fillV_get _ hlti] at cC
                  have lC := kC.lt
                  obtain ⟨gi, hgi⟩ : ∃ gi, gi = gC + 1 + i := ⟨_, rfl⟩
                  have kI : Blk wr gi 22 (fillC M fun q => if q < j ∨ (q = j ∧ i < i) then V q i else 0) := by rw [hgi]; exact HK.out i hlti
                  have cI := kI.cell j
                  rw [fill_get _ hlt] at cI
                  generalize (if j < j ∨ (j = j ∧ i < i) then V j i else 0) = old at cI
                  have lI := kI.lt
                  have fI := kI.frozen
                  rw [← hgi] at cC
                  have ngC : gi ≠ gC := by omega
                  have ngv : gi ≠ gv := by omega
                  dsimp only [mkS] at cC
                  have HGI := Lib.hid hgi
                  have HXX := Lib.hid hx
                  clear hgi hx
                  go_wp2_with fail
                  have hg := set_only (w := wr) gi j (.int .u64 (x : Int))
                  have hK2 : Hid (∀ k, k < L.n → Blk (wr.setCell ⟨gi, j, none⟩ (.int .u64 (x : Int))) (gC + 1 + k) 22 (fillC M fun q => if q < j ∨ (q = j ∧ k < i + 1) then V q k else 0)) := fun k h => by
                    by_cases e : k = i
                    · subst e
                      have h2 := kI.set_ j (.int .u64 (x : Int))
                      rw [fill_set] at h2
                      rw [← HGI.out]
                      rw [fill_same (g := fun q => if q < j ∨ (q = j ∧ k < k + 1) then V q k else 0) (fun q _ => by
                        simp only [putF]
                        by_cases e : q = j
                        · subst e; rw [if_pos rfl, if_pos (by omega), HXX.out]
                        · rw [if_neg e]
                          by_cases e2 : q < j
                          · rw [if_pos (.inl e2), if_pos (.inl e2)]
                          · rw [if_neg (by omega), if_neg (by omega)])] at h2
                      exact h2
                    · have h2 := (HK.out k h).grown hg (fun e2 => by have := Option.some.inj e2; have := HGI.out; omega)
                      rw [fill_same (g := fun q => if q < j ∨ (q = j ∧ k < i + 1) then V q k else 0) (fun q _ => by
                        by_cases e2 : q < j ∨ (q = j ∧ k < i)
                        · rw [if_pos e2, if_pos (by omega)]
                        · rw [if_neg e2, if_neg (by omega)])] at h2
                      exact h2
                  replace kC := kC.grown hg (fun e => ngC (Option.some.inj e).symm)
                  replace kv := kv.grown hg (fun e => ngv (Option.some.inj e).symm)
                  replace hsz := Nat.le_trans hsz hg.size
                  replace hbn := hbn.trans (below_of_only hg (by have := hbn.size; have := HGC.out; omega) (by have := HGI.out; omega))
                  clear hg HK kI cI cC cv lI fI lC lv HXX
                  go_roundw
                  case rel => exact ⟨i + 1, by omega, by go_num, kC, hK2, hsz, hbn, kv⟩
                  case measure => simp [intOf]; omega
                · obtain rfl : i = L.n := by omega
                  have HK3 : Hid (∀ k, k < L.n → Blk wr (gC + 1 + k) 22 (fillC M fun q => if q < j + 1 then evaP L.p L.n L.n.log2 (ps.getD q []) gen k else 0)) := fun k h => by
                    have h2 := HK.out k h
                    rw [fill_same (g := fun q => if q < j + 1 then evaP L.p L.n L.n.log2 (ps.getD q []) gen k else 0) (fun q _ => by
                      rw [HV.out]
                      by_cases e2 : q < j + 1
                      · rw [if_pos e2, if_pos (by omega)]
                      · rw [if_neg e2, if_neg (by omega)])] at h2
                    exact h2
                  clear HK kv
                  go_wp2
                  go_roundw
                  case rel => exact ⟨j + 1, by omega, by go_num, kC, HK3, hsz, hbn⟩
                  case measure => simp [intOf]; omega
            · obtain rfl : j = M := by omega
              go_wp2
              go_ret
              refine ⟨_, rfl, ?_, hb0.trans (hbn.mono (by omega))⟩
              rw [show (fun i => (List.range j).map (colV L ps i)) = fun i => (List.range j).map fun q => evaP L.p L.n L.n.log2 (ps.getD q []) gen i from funext fun i => HCV.out i]
              refine frows_done (N := gC + 1) (gb := none) (cs := fillV L.n fun k => mkS j (gC + 1 + k)) (fun k hk => ⟨_, fillV_get _ hk, ?_⟩) kC (by simp [maxLen]; omega)
              have h2 := HK.out k hk
              rw [fill_same (g := fun q => evaP L.p L.n L.n.log2 (ps.getD q []) gen k) (fun q hq => if_pos hq)] at h2
              exact rwx_fill h2 (fun q _ => HFF.out k q) lM (by omega) (fun e => by cases e)
end Go.Proofs.Ytefnagiffllhbaa

/- TabA -/
namespace Go.Proofs.Ytefnagiffllhbaa
open Go.RowKit

/-- The variable of the last term that was read. -/
def lastV (l : List (Int × Nat)) (j : Nat) : Int := if j = 0 then -1 else (l.getD (j - 1) (0, 0)).1
theorem linBad_last {p : Nat} {n : Int} {l : List (Int × Nat)} {j : Nat} (hb : ∀ k < j, linBad p n l k = false) :
    linBad p n l j = (decide ((l.getD j (0, 0)).1 ≤ lastV l j) || decide (n ≤ (l.getD j (0, 0)).1) || (l.getD j (0, 0)).2 == 0 || decide (p ≤ (l.getD j (0, 0)).2)) := by
  have h1 : -1 ≤ lastV l j := by
    unfold lastV
    split
    · omega
    · have h := hb (j - 1) (by omega)
      unfold linBad at h
      simp only [Bool.or_eq_false_iff, decide_eq_false_iff_not] at h
      omega
  unfold linBad
  have e : (decide ((l.getD j (0, 0)).1 < 0) || (decide (0 < j) && decide ((l.getD j (0, 0)).1 ≤ (l.getD (j - 1) (0, 0)).1))) = decide ((l.getD j (0, 0)).1 ≤ lastV l j) := by
    rw [Bool.eq_iff_iff]
    simp only [Bool.or_eq_true, Bool.and_eq_true, decide_eq_true_eq]
    unfold lastV at h1 ⊢
    split
    · omega
    · rename_i h0
      rw [if_neg h0] at h1
      omega
  rw [← e]
  cases decide ((l.getD j (0, 0)).1 < 0) <;> cases decide (n ≤ (l.getD j (0, 0)).1) <;> simp

set_option maxRecDepth 100000 in
set_option maxHeartbeats 1000000 in
theorem pLinear_any (p : Nat) (pub n : Int) (rows : Value) (A : Option Addr) (len c : Nat) (l : List (Int × Nat)) (w : World) (hl : RLin w [.slice A len c] l) (hs : slc rows) :
    Calls Try.prog 108 #[tabV p pub n rows, .slice A len c] w fun e w' => e = .returned (.bool (linOk p n l)) ∧ Below w.heap.size w w' := by
  obtain ⟨A', n', c', he, hlen, hnc, hmx, hrd⟩ := hl
  simp at he
  obtain ⟨rfl, rfl, rfl⟩ := he
  obtain ⟨As, ns, cs, rfl⟩ := hs
  subst hlen
  unfold tabV
  have kt := Blk.new w 25 #[.int .u64 (p : Int), .int .i64 pub, .int .i64 n, .slice As ns cs]
  have hb0 : Below w.heap.size w (w.alloc (.cells #[.int .u64 (p : Int), .int .i64 pub, .int .i64 n, .slice As ns cs] 25)) := (Below.refl _ _).alloc (Nat.le_refl _) _
  have g0 : (l.length : Int) ≤ 9223372036854775807 := by
    have h4 := hmx
    simp [maxLen] at h4
    omega
  go_enter Try.func108, Try.ntmps108
  go_wp2_with fail
  generalize w.alloc _ = w1 at kt hb0 ⊢
  go_loopw [5, 10] (fun u i wr => ∃ (j : Nat) (la : Int), j ≤ l.length ∧ i = .int .i64 (j : Int) ∧ u = .int .i64 la ∧ Hid (la = lastV l j) ∧ Blk wr w.heap.size 25 #[.int .u64 (p : Int), .int .i64 pub, .int .i64 n, .slice As ns cs] ∧ Below w.heap.size w wr ∧ Hid (∀ k < j, linBad p n l k = false))
    (fun _ i _ => l.length - (intOf i).toNat)
  case atStart => exact ⟨0, -1, Nat.zero_le _, rfl, rfl, rfl, kt, hb0, fun k hk => by omega⟩
  case round =>
    clear kt hb0
    obtain ⟨j, la, hj, rfl, rfl, HLA, kt, hb0, HB⟩ := hrel
    by_cases hlt : j < l.length
    · have HL := Lib.hid hlt
      obtain ⟨b, q, rfl⟩ := hrd.base (by omega) (by omega)
      have hrd' := hrd.below kept_RTerm hb0
      obtain ⟨c1, c2⟩ := RLin.at_ hrd' hlt
      have hbl := World.block_lt_of_cell? _ _ c1
      simp only at hbl
      have g1 : (0 : Int) ≤ (j : Int) := by omega
      have g2 : (j : Int) < (l.length : Int) := by omega
      have HD := Lib.hid (linBad_last HB.out)
      have HNX := Lib.hid (show (l.getD j (0, 0)).1 = lastV l (j + 1) by simp [lastV])
      rw [← HLA.out] at HD
      revert c1 c2 HD HNX
      generalize (l.getD j (0, 0)).1 = x
      generalize (l.getD j (0, 0)).2 = y
      intro c1 c2 HD HNX
      have ct := kt.cell
      have lt := kt.lt
      clear hrd hrd' HLA
      by_cases z1 : x ≤ la
      · have d1 := decide_eq_true z1
        go_wp2_with fail
        go_ret
        exact ⟨by rw [linOk_bad HL.out (HD.out.trans (by simp [d1]))]; rfl, hb0.alloc hb0.size _⟩
      · have d1 := decide_eq_false z1
        by_cases z2 : n ≤ x
        · have d2 := decide_eq_true z2
          go_wp2_with fail
          go_ret
          exact ⟨by rw [linOk_bad HL.out (HD.out.trans (by simp [d1, d2]))]; rfl, hb0.alloc hb0.size _⟩
        · have d2 := decide_eq_false z2
          by_cases z4 : y = 0
          · have HY := Lib.hid z4
            subst z4
            go_wp2_with fail
            go_ret
            exact ⟨by rw [linOk_bad HL.out (HD.out.trans (by simp [d1, d2]))]; rfl, hb0.alloc hb0.size _⟩
          · have d4 : ((y : Int) == 0) = false := by rw [beq_eq_false_iff_ne]; omega
            have d4' : (y == 0) = false := by rw [beq_eq_false_iff_ne]; exact z4
            by_cases z5 : p ≤ y
            · have d5 : decide ((p : Int) ≤ (y : Int)) = true := decide_eq_true (by omega)
              have d5' := decide_eq_true z5
              go_wp2_with fail
              go_ret
              exact ⟨by rw [linOk_bad HL.out (HD.out.trans (by simp [d1, d2, d4', d5']))]; rfl, hb0.alloc hb0.size _⟩
            · have d5 : decide ((p : Int) ≤ (y : Int)) = false := decide_eq_false (by omega)
              have d5' := decide_eq_false z5
              have HE := Lib.hid (show linBad p n l j = false from HD.out.trans (by simp [d1, d2, d4', d5']))
              clear d4' d5'
              go_wp2_with fail
              go_roundw
              case rel => exact ⟨j + 1, x, by omega, by go_num, rfl, HNX.out, kt.alloc _, hb0.alloc hb0.size _, ext_false HB.out HE.out⟩
              case measure => simp [intOf]; omega
    · obtain rfl : l.length = j := by omega
      go_wp2
      go_ret
      exact ⟨by rw [linOk_good HB.out]; rfl, hb0⟩
end Go.Proofs.Ytefnagiffllhbaa

/- TabB -/
namespace Go.Proofs.Ytefnagiffllhbaa
open Go.RowKit

set_option maxRecDepth 100000 in
set_option maxHeartbeats 1000000 in
theorem pRow_any (p : Nat) (pub vars : Int) (rows : Value) (r : RowR) (x y z : Value) (w : World) (hx : RLin w [x] r.a) (hy : RLin w [y] r.b) (hz : RLin w [z] r.c) (hs : slc rows) :
    Calls Try.prog 94 #[tabV p pub vars rows, .agg #[x, y, z]] w fun e w' => e = .returned (.bool (rowOk p vars r)) ∧ Below w.heap.size w w' := by
  obtain ⟨A1, n1, c1, rfl⟩ := RSl.slc hx
  obtain ⟨A2, n2, c2, rfl⟩ := RSl.slc hy
  obtain ⟨A3, n3, c3, rfl⟩ := RSl.slc hz
  have HX := Lib.hid (fun w' (hb : Below w.heap.size w w') => pLinear_any p pub vars rows _ _ _ r.a w' (kept_RLin _ _ _ _ hb hx) hs)
  have HY := Lib.hid (fun w' (hb : Below w.heap.size w w') => pLinear_any p pub vars rows _ _ _ r.b w' (kept_RLin _ _ _ _ hb hy) hs)
  have HZ := Lib.hid (fun w' (hb : Below w.heap.size w w') => pLinear_any p pub vars rows _ _ _ r.c w' (kept_RLin _ _ _ _ hb hz) hs)
  obtain ⟨As, ns, cs, rfl⟩ := hs
  have hR : rowOk p vars r = (linOk p vars r.a && linOk p vars r.b && linOk p vars r.c) := rfl
  rw [hR]
  clear hR hx hy hz
  generalize linOk p vars r.a = b1 at *
  generalize linOk p vars r.b = b2 at *
  generalize linOk p vars r.c = b3 at *
  unfold tabV at *
  obtain ⟨kt, kr, hb0, -⟩ := boxes2 w 25 71 #[.int .u64 (p : Int), .int .i64 pub, .int .i64 vars, .slice As ns cs] #[.slice A1 n1 c1, .slice A2 n2 c2, .slice A3 n3 c3]
  go_enter Try.func94, Try.ntmps94
  go_wp2_with fail
  generalize (w.alloc _).alloc _ = w0 at kt kr hb0 ⊢
  refine (HX.out _ hb0).mono ?_
  rintro e w1 ⟨rfl, hb1⟩
  replace kt := kt.below hb1 kt.lt
  replace kr := kr.below hb1 kr.lt
  replace hb0 := below_chain hb0 hb1
  clear hb1
  have ct := kt.cell
  have cr := kr.cell
  cases b1
  · go_wp2
    go_ret
    exact ⟨rfl, hb0⟩
  go_wp2_with fail
  refine (HY.out _ hb0).mono ?_
  rintro e w2 ⟨rfl, hb2⟩
  replace kt := kt.below hb2 kt.lt
  replace kr := kr.below hb2 kr.lt
  replace hb0 := below_chain hb0 hb2
  clear hb2 ct cr
  have ct := kt.cell
  have cr := kr.cell
  cases b2
  · go_wp2
    go_ret
    exact ⟨rfl, hb0⟩
  go_wp2_with fail
  refine (HZ.out _ hb0).mono ?_
  rintro e w3 ⟨rfl, hb3⟩
  go_wp2
  go_ret
  exact ⟨by simp, below_chain hb0 hb3⟩

set_option maxRecDepth 100000 in
set_option maxHeartbeats 1000000 in
theorem fValidB_any (p : Nat) (w : World) (hp : okP p = false) :
    Calls Try.prog 69 #[fv p] w fun e w' => e = .returned (.bool false) ∧ Below w.heap.size w w' := by
  unfold okP at hp
  simp only [Bool.or_eq_false_iff, beq_eq_false_iff_ne] at hp
  obtain ⟨⟨⟨⟨⟨⟨h1, h2⟩, h3⟩, h4⟩, h5⟩, h6⟩, h7⟩ := hp
  have d1 : ((p : Int) == 17) = false := by rw [beq_eq_false_iff_ne]; omega
  have d2 : ((p : Int) == 97) = false := by rw [beq_eq_false_iff_ne]; omega
  have d3 : ((p : Int) == 193) = false := by rw [beq_eq_false_iff_ne]; omega
  have d4 : ((p : Int) == 257) = false := by rw [beq_eq_false_iff_ne]; omega
  have d5 : ((p : Int) == 12289) = false := by rw [beq_eq_false_iff_ne]; omega
  have d6 : ((p : Int) == 65537) = false := by rw [beq_eq_false_iff_ne]; omega
  have d7 : ((p : Int) == 18446744069414584321) = false := by rw [beq_eq_false_iff_ne]; omega
  clear h1 h2 h3 h4 h5 h6 h7
  unfold fv
  go_enter Try.func69, Try.ntmps69
  go_wp2_with fail
  go_ret
  exact ⟨rfl, (Below.refl _ _).alloc (Nat.le_refl _) _⟩
theorem fValidX_any (p : Nat) (w : World) : Calls Try.prog 69 #[fv p] w fun e w' => e = .returned (.bool (okP p)) ∧ Below w.heap.size w w' := by
  cases h : okP p
  · exact fValidB_any p w h
  · exact fValid_any p w h

set_option maxRecDepth 100000 in
set_option maxHeartbeats 1000000 in
theorem pSizes_any (p : Nat) (pub vars : Int) (rows : Value) (w : World) (hs : slc rows) :
    Calls Try.prog 93 #[tabV p pub vars rows] w fun e w' => e = .returned (.bool (okP p && !decide (pub < 0) && !decide (vars ≤ pub) && !decide (65536 < vars))) ∧ Below w.heap.size w w' := by
  have HV := Lib.hid (fun w => fValidX_any p w)
  obtain ⟨As, ns, cs, rfl⟩ := hs
  generalize okP p = b0 at *
  unfold tabV fv at *
  have kt := Blk.new w 25 #[.int .u64 (p : Int), .int .i64 pub, .int .i64 vars, .slice As ns cs]
  have hb0 : Below w.heap.size w (w.alloc (.cells #[.int .u64 (p : Int), .int .i64 pub, .int .i64 vars, .slice As ns cs] 25)) := (Below.refl _ _).alloc (Nat.le_refl _) _
  go_enter Try.func93, Try.ntmps93
  go_wp2_with fail
  generalize w.alloc _ = w0 at kt hb0 ⊢
  refine (HV.out _).mono ?_
  rintro e w1 ⟨rfl, hb1⟩
  replace kt := kt.below hb1 kt.lt
  replace hb0 := below_chain hb0 hb1
  clear hb1
  have ct := kt.cell
  cases b0
  · go_wp2
    go_ret
    exact ⟨rfl, hb0⟩
  by_cases z1 : pub < 0
  · have d1 : decide (0 ≤ pub) = false := decide_eq_false (by omega)
    have e1 := decide_eq_true z1
    go_wp2
    go_ret
    exact ⟨by simp [e1], hb0⟩
  have d1 : decide (0 ≤ pub) = true := decide_eq_true (by omega)
  have e1 := decide_eq_false z1
  by_cases z2 : vars ≤ pub
  · have d2 : decide (pub < vars) = false := decide_eq_false (by omega)
    have e2 := decide_eq_true z2
    go_wp2
    go_ret
    exact ⟨by simp [e2], hb0⟩
  have d2 : decide (pub < vars) = true := decide_eq_true (by omega)
  have e2 := decide_eq_false z2
  by_cases z3 : 65536 < vars
  · have d3 : decide (vars ≤ 65536) = false := decide_eq_false (by omega)
    have e3 := decide_eq_true z3
    go_wp2
    go_ret
    exact ⟨by simp [e3], hb0⟩
  have d3 : decide (vars ≤ 65536) = true := decide_eq_true (by omega)
  have e3 := decide_eq_false z3
  go_wp2
  go_ret
  exact ⟨by simp [e1, e2, e3], hb0⟩
end Go.Proofs.Ytefnagiffllhbaa

/- TabC -/
namespace Go.Proofs.Ytefnagiffllhbaa
open Go.RowKit

set_option maxRecDepth 100000 in
set_option maxHeartbeats 1000000 in
theorem pTabValid_any (p : Nat) (pub vars : Int) (A : Option Addr) (n c : Nat) (rows : List RowR) (w : World) (hr : RSl 3 RRow w [.slice A n c] rows) :
    Calls Try.prog 52 #[tabV p pub vars (.slice A n c)] w fun e w' => e = .returned (.bool (tabOk p pub vars rows)) ∧ Below w.heap.size w w' := by
  have HS := Lib.hid (fun w => pSizes_any p pub vars (.slice A n c) w ⟨_, _, _, rfl⟩)
  have HR := Lib.hid (fun r x y z w hx hy hz => pRow_any p pub vars (.slice A n c) r x y z w hx hy hz ⟨_, _, _, rfl⟩)
  obtain ⟨A', n', c', he, hlen, hnc, hmx, hrd⟩ := hr
  simp at he
  obtain ⟨rfl, rfl, rfl⟩ := he
  subst hlen
  have g0 : (rows.length : Int) ≤ 9223372036854775807 := by
    have h4 := hmx
    simp [maxLen] at h4
    omega
  have E := Lib.hid (show tabOk p pub vars rows = ((okP p && !decide (pub < 0) && !decide (vars ≤ pub) && !decide (65536 < vars)) && !decide ((16384 : Int) < (rows.length : Int)) && rows.all (rowOk p vars)) from rfl)
  revert HS E
  generalize tabOk p pub vars rows = ans
  generalize (okP p && !decide (pub < 0) && !decide (vars ≤ pub) && !decide (65536 < vars)) = b0
  intro HS E
  unfold tabV at *
  have kt := Blk.new w 25 #[.int .u64 (p : Int), .int .i64 pub, .int .i64 vars, .slice A rows.length c]
  have hb0 : Below w.heap.size w (w.alloc (.cells #[.int .u64 (p : Int), .int .i64 pub, .int .i64 vars, .slice A rows.length c] 25)) := (Below.refl _ _).alloc (Nat.le_refl _) _
  go_enter Try.func52, Try.ntmps52
  go_wp2_with fail
  generalize w.alloc _ = w0 at kt hb0 ⊢
  refine (HS.out _).mono ?_
  rintro e w1 ⟨rfl, hb1⟩
  replace kt := kt.below hb1 kt.lt
  replace hb0 := below_chain hb0 hb1
  clear hb1
  have ct := kt.cell
  cases b0
  · go_wp2
    go_ret
    exact ⟨by rw [E.out]; simp, hb0⟩
  by_cases z4 : (16384 : Int) < (rows.length : Int)
  · have d4 := decide_eq_true z4
    go_wp2
    go_ret
    exact ⟨by rw [E.out]; simp [d4], hb0⟩
  have d4 := decide_eq_false z4
  have E2 := Lib.hid (show ans = rows.all (rowOk p vars) by rw [E.out, d4]; simp)
  clear E
  go_wp2_with fail
  clear ct
  go_loopw [17] (fun i wr => ∃ j : Nat, j ≤ rows.length ∧ i = .int .i64 (j : Int) ∧ Blk wr w.heap.size 25 #[.int .u64 (p : Int), .int .i64 pub, .int .i64 vars, .slice A rows.length c] ∧ Below w.heap.size w wr ∧ Hid (∀ k < j, ∀ h : k < rows.length, rowOk p vars rows[k] = true))
    (fun i _ => rows.length - (intOf i).toNat)
  case atStart => exact ⟨0, Nat.zero_le _, rfl, kt, hb0, fun k hk => by omega⟩
  case round =>
    clear kt hb0
    obtain ⟨j, hj, rfl, kt, hb0, HB⟩ := hrel
    by_cases hlt : j < rows.length
    · have HL := Lib.hid hlt
      obtain ⟨b, q, rfl⟩ := hrd.base (by omega) (by omega)
      obtain ⟨cs, -, hc, x, y, z, rfl, hx1, hy1, hz1⟩ := (hrd.below kept_RRow hb0).get hlt
      have h0 : wr.cell? ⟨b, q + j * 3, none⟩ = some x := hc 0 (by omega)
      have h1 : wr.cell? ⟨b, q + j * 3 + 1, none⟩ = some y := hc 1 (by omega)
      have h2 : wr.cell? ⟨b, q + j * 3 + 2, none⟩ = some z := hc 2 (by omega)
      have i1 : (0 : Int) ≤ (j : Int) := by omega
      have i2 : (j : Int) < (rows.length : Int) := by omega
      have hbl := World.block_lt_of_cell? _ _ h0
      simp only at hbl
      have HC := Lib.hid (fun w' (hb : Below wr.heap.size wr w') => HR.out rows[j] x y z w' (kept_RLin _ _ _ _ hb hx1) (kept_RLin _ _ _ _ hb hy1) (kept_RLin _ _ _ _ hb hz1))
      obtain ⟨A1, n1, c1, rfl⟩ := RSl.slc hx1
      obtain ⟨A2, n2, c2, rfl⟩ := RSl.slc hy1
      obtain ⟨A3, n3, c3, rfl⟩ := RSl.slc hz1
      have hal := (Below.refl wr.heap.size wr).alloc (Nat.le_refl _) (.cells #[.slice A1 n1 c1, .slice A2 n2 c2, .slice A3 n3 c3] 71)
      have ct := kt.cell
      have lt := kt.lt
      clear hc hx1 hy1 hz1
      go_wp2_with fail
      refine (HC.out _ hal).mono ?_
      rintro e w3 ⟨rfl, hb3⟩
      have hb4 := below_chain hal hb3
      replace kt := kt.below hb4 kt.lt
      replace hb0 := below_chain hb0 hb4
      clear hal hb3 hb4 h0 h1 h2 ct lt
      cases bo : rowOk p vars rows[j]
      · have HO := Lib.hid bo
        clear bo
        go_wp2
        go_ret
        exact ⟨by rw [E2.out, List.all_eq_false.2 ⟨rows[j], List.getElem_mem HL.out, fun h => Bool.noConfusion (HO.out.symm.trans h)⟩]; rfl, hb0⟩
      · have HO := Lib.hid bo
        clear bo
        go_wp2
        go_roundw
        case rel =>
          refine ⟨j + 1, by omega, by go_num, kt, hb0, fun k hk h => ?_⟩
          by_cases e : k < j
          · exact HB.out k e h
          · obtain rfl : k = j := by omega
            exact HO.out
        case measure => simp [intOf]; omega
    · obtain rfl : rows.length = j := by omega
      go_wp2
      go_ret
      exact ⟨by rw [E2.out, List.all_eq_true.2 fun r hr => by obtain ⟨k, hk, rfl⟩ := List.getElem_of_mem hr; exact HB.out k hk hk]; rfl, hb0⟩

set_option maxHeartbeats 400000 in
theorem parts_any (n k : Nat) (w : World) (hn : n ≤ 1000000000) (hk : 0 < k) (hk2 : k ≤ 1000000000) :
    Calls Try.prog 54 #[.int .i64 (n : Int), .int .i64 (k : Int)] w fun e w' => e = .returned (.int .i64 (((n + k - 1) / k : Nat) : Int)) ∧ w' = w := by
  have e1 : (n : Int) + (k : Int) = ((n + k : Nat) : Int) := by omega
  obtain ⟨s, hs⟩ : ∃ s, s = n + k := ⟨_, rfl⟩
  obtain ⟨t, ht⟩ : ∃ t, t = n + k - 1 := ⟨_, rfl⟩
  obtain ⟨r, hr⟩ : ∃ r, r = t / k := ⟨_, rfl⟩
  have e2 : (s : Int) - 1 = (t : Int) := by omega
  rw [← hs] at e1
  rw [← ht, ← hr]
  have e3 : (t : Int) / (k : Int) = (r : Int) := by rw [hr]; rfl
  have e4 : (t : Int).tdiv (k : Int) = (r : Int) := by rw [hr]; rfl
  have e5 : IntKind.i64.wrap (s : Int) = (s : Int) := wr_i64 _ (by omega) (by omega)
  have e6 : IntKind.i64.wrap (t : Int) = (t : Int) := wr_i64 _ (by omega) (by omega)
  have hrt : r ≤ t := by rw [hr]; exact Nat.div_le_self _ _
  have e7 : IntKind.i64.wrap (r : Int) = (r : Int) := wr_i64 _ (by omega) (by omega)
  have q1 : (0 : Int) < (k : Int) := by omega
  have q2 : ¬ ((k : Int) = 0) := by omega
  have q3 : ¬ (k = 0) := by omega
  clear hs ht hr hrt
  go_enter Try.func54, Try.ntmps54
  go_wp2_with fail
  go_ret
  exact ⟨rfl, rfl⟩
end Go.Proofs.Ytefnagiffllhbaa
