/- A part of the proof: ReAA, ReY. No condition. -/
import Derived.Test.YtakjnmojigechaaGreatJA43
import Derived.Test.YtakjnmojigechaaGreatJA47
import Derived.Test.YtakjnmojigechaaGreatJA35
import Derived.Test.YtakjnmojigechaaGreatJA46

namespace Go.Proofs.YtakjnmojigechaaGreat
open Go.RowKit
theorem boxes5 (w : World) (t1 t2 t3 t4 t5 : TypeId) (cs1 cs2 cs3 cs4 cs5 : Array Value) :
    Blk (((((w.alloc (.cells cs1 t1)).alloc (.cells cs2 t2)).alloc (.cells cs3 t3)).alloc (.cells cs4 t4)).alloc (.cells cs5 t5)) w.heap.size t1 cs1 ∧ Blk (((((w.alloc (.cells cs1 t1)).alloc (.cells cs2 t2)).alloc (.cells cs3 t3)).alloc (.cells cs4 t4)).alloc (.cells cs5 t5)) (w.heap.size + 1) t2 cs2 ∧ Blk (((((w.alloc (.cells cs1 t1)).alloc (.cells cs2 t2)).alloc (.cells cs3 t3)).alloc (.cells cs4 t4)).alloc (.cells cs5 t5)) (w.heap.size + 1 + 1) t3 cs3 ∧ Blk (((((w.alloc (.cells cs1 t1)).alloc (.cells cs2 t2)).alloc (.cells cs3 t3)).alloc (.cells cs4 t4)).alloc (.cells cs5 t5)) (w.heap.size + 1 + 1 + 1) t4 cs4 ∧ Blk (((((w.alloc (.cells cs1 t1)).alloc (.cells cs2 t2)).alloc (.cells cs3 t3)).alloc (.cells cs4 t4)).alloc (.cells cs5 t5)) (w.heap.size + 1 + 1 + 1 + 1) t5 cs5 ∧
      Below w.heap.size w (((((w.alloc (.cells cs1 t1)).alloc (.cells cs2 t2)).alloc (.cells cs3 t3)).alloc (.cells cs4 t4)).alloc (.cells cs5 t5)) ∧ (((((w.alloc (.cells cs1 t1)).alloc (.cells cs2 t2)).alloc (.cells cs3 t3)).alloc (.cells cs4 t4)).alloc (.cells cs5 t5)).heap.size = w.heap.size + 5 := by
  obtain ⟨h1, h2, h3, h4, h5, h6⟩ := boxes4 w t1 t2 t3 t4 cs1 cs2 cs3 cs4
  refine ⟨h1.alloc _, h2.alloc _, h3.alloc _, h4.alloc _, ?_, h5.alloc (by omega) _, by simp⟩
  have := Blk.new ((((w.alloc (.cells cs1 t1)).alloc (.cells cs2 t2)).alloc (.cells cs3 t3)).alloc (.cells cs4 t4)) t5 cs5
  rw [h6] at this
  exact this
set_option maxRecDepth 100000 in
set_option maxHeartbeats 1000000 in
theorem rPad26_own (A : Option Addr) (n c m : Nat) (l : List Nat) (w : World) (hl : RWd w [.slice A n c] l) (hn : n ≤ 100000) (hm : m ≤ 100000) :
    Calls Tryz.prog 42 #[.slice A n c, .int .i64 (m : Int)] w fun e w' => ∃ v, e = .returned v ∧ w'.ownsRow w.heap.size 22 1 v (padP l m).length (U64 (padP l m)) ∧ Below w.heap.size w w' := by
  obtain ⟨rfl, h1, h2, hlt, hrd⟩ := lw_at hl
  have hal := (Below.refl w.heap.size w).alloc (Nat.le_refl _) (.cells #[] 22)
  have HS := Lib.hid (show ∀ k, l ++ List.replicate k 0 ++ [0] = l ++ List.replicate (k + 1) 0 from fun k => by rw [List.append_assoc, List.replicate_succ'])
  have HP := Lib.hid (show padP l m = l ++ List.replicate (m - l.length) 0 from rfl)
  rw [HP.out]
  obtain ⟨f, hf⟩ : ∃ f, f = fun k => l ++ List.replicate k 0 := ⟨_, rfl⟩
  have H0 := Lib.hid (show f 0 = l by rw [hf]; simp)
  have HF := Lib.hid (show ∀ k, f k ++ [0] = f (k + 1) from fun k => by rw [hf]; exact HS.out k)
  rw [show l ++ List.replicate (m - l.length) 0 = f (m - l.length) by rw [hf]]
  clear HS HP hf hlt h1 h2 hl
  go_enter Tryz.func42, Tryz.ntmps42
  go_wp2_with (at_builtin; refine wpl_append rfl _ _ rfl el_w rfl (own_empty w 22 (Nat.le_refl _)) rfl (hrd.alloc _) (one_U64 l) (by omega) (by simp) ?_)
  intro v1 w1 hown hgrow hblk
  have hB := lw_grow (own_empty w 22 (Nat.le_refl _)) hgrow (by simp)
  replace hB := hal.trans hB
  obtain ⟨t, ht⟩ : ∃ t, t = l.length := ⟨_, rfl⟩
  have hown1 : w1.ownsRow w.heap.size 22 1 v1 t (U64 (f 0)) := by
    rw [H0.out, ht]; simpa using hown
  have HT := Lib.hid ht
  clear hgrow hblk hown hal ht hrd
  go_wp2_with fail
  go_loopw [5] (fun v wr => ∃ k s : Nat, Hid (s = t + k ∧ (k = 0 ∨ s ≤ m)) ∧ s ≤ 200000 ∧ wr.ownsRow w.heap.size 22 1 v s (U64 (f k)) ∧ Below w.heap.size w wr) (fun v _ => match v with | .slice _ n _ => m - n | _ => 0)
  case atStart => exact ⟨0, t, Lib.hid ⟨rfl, .inl rfl⟩, by have := HT.out; omega, hown1, hB⟩
  case round =>
    clear hown1 hB
    obtain ⟨k, s, HK, hs, hown, hb⟩ := hrel
    obtain ⟨A1, c1, rfl, -⟩ := own_form hown
    by_cases hlt : s < m
    · have g1 : (s : Int) < (m : Int) := by omega
      have HF1 := Lib.hid (HF.out k)
      go_wp2_with (at_builtin; refine wpl_append rfl _ _ rfl el_w rfl (hown.alloc _) rfl (rd_one _ _ _) (one_U64 [0]) (by omega) (by simp; have := hb.size; omega) ?_)
      intro v' wn hown' hgrow hblk
      have hal := (Below.refl wr.heap.size wr).alloc (Nat.le_refl _) (.cells #[.int .u64 (0 : Int)] 22)
      have hB := lw_grow (hown.alloc _) hgrow (by simp; have := hb.size; omega)
      replace hb := (below_on hb hal hb.size).trans hB
      replace hown : wn.ownsRow w.heap.size 22 1 v' (s + 1) (U64 (f (k + 1))) := lw_app (b := [0]) hown' HF1.out
      clear hown' hgrow hblk hal hB
      obtain ⟨A2, c2, rfl, -⟩ := own_form hown
      go_wp2
      go_roundw
      case rel => exact ⟨k + 1, s + 1, Lib.hid (by have := HK.out; omega), by omega, hown, hb⟩
      case measure => simp; omega
    · have g1 : ¬ ((s : Int) < (m : Int)) := by omega
      have HE := Lib.hid (show f k = f (m - l.length) by
        have h := HK.out
        have h2 := HT.out
        rcases h.2 with h3 | h3
        · rw [h3, show m - l.length = 0 by omega]
        · rw [show k = m - l.length by omega])
      rw [HE.out] at hown
      have HSL := Lib.hid (show (f (m - l.length)).length = s by
        have := hown.1
        simpa [U64] using this)
      go_wp2
      go_ret
      exact ⟨_, rfl, by rw [HSL.out]; exact hown, hb⟩
set_option maxRecDepth 100000 in
set_option maxHeartbeats 4000000 in
theorem rAnswer26_any (L : LayR) (pu rho al be : Nat) (vars : Int) (A AM D0 D1 D2 D3 D4 : Option Addr) (R c T cM n0 n1 n2 n3 n4 k0 k1 k2 k3 k4 : Nat) (rows : List RowR) (m r : List (List Nat)) (co li qu : List Nat) (w : World)
    (hL : LayOk L) (hF : TabFor L pu vars rows) (hr : RSl 3 RRow w [.slice A R c] rows) (hV : VarsOk vars rows)
    (hm : RRows w [.slice AM T cM] m) (h0 : RRows w [.slice D0 n0 k0] r) (h1 : RWd w [.slice D1 n1 k1] co) (h2 : RWd w [.slice D2 n2 k2] li) (h3 : RWd w [.slice D3 n3 k3] qu)
    (hok : MsgOk L m r) (hcc : co.length = L.k) (hcl : li.length = L.k + L.block - 2) (hcq : qu.length = L.block + 2 * L.queries - 1) :
    Calls Tryz.prog 13 #[.agg (layCs L), tabV L.p (pu : Int) vars (.slice A R c), .slice AM T cM, .agg #[.slice D0 n0 k0, .slice D1 n1 k1, .slice D2 n2 k2, .slice D3 n3 k3, .slice D4 n4 k4], .agg #[.int .u64 (al : Int), .int .u64 (rho : Int), .int .u64 (be : Int)]] w fun e w' => ∃ v1 v2 v3, e = .returned (.agg #[v1, v2, v3]) ∧
      w'.ownsRow w.heap.size 22 1 v1 (ansCd L m r co al).length (U64 (ansCd L m r co al)) ∧ w'.ownsRow w.heap.size 22 1 v2 (ansLd L (coefD L pu rho rows) m r li).length (U64 (ansLd L (coefD L pu rho rows) m r li)) ∧ w'.ownsRow w.heap.size 22 1 v3 (ansQd L m r qu be).length (U64 (ansQd L m r qu be)) ∧ Below w.heap.size w w' := by
  have hbl1 := hL.b1
  have hbl2 := hL.b2
  have hq1 := hL.q1
  have hq2 := hL.q2
  have hk := hL.k
  have hla := hL.a
  have hlb := hL.b
  have hml := hok.ml
  have hTm := (rows_at hm).1
  have e1 := (lw_at h1).1
  have e2 := (lw_at h2).1
  have e3 := (lw_at h3).1
  have sl := fun A n c => (⟨A, n, c, rfl⟩ : slc (.slice A n c))
  obtain ⟨t1, ht1⟩ : ∃ t, t = L.k + L.block - 1 := ⟨_, rfl⟩
  obtain ⟨t2, ht2⟩ : ∃ t, t = 2 * L.k - 1 := ⟨_, rfl⟩
  have HRo := Lib.hid (fun w' (hb : Below w.heap.size w w') => rRows26_any L D0 D1 D2 D3 D4 AM n0 n1 n2 n3 n4 T k0 k1 k2 k3 k4 cM m r w' hL (kept_RSl kept_RWd _ _ _ _ hb hm) (kept_RSl kept_RWd _ _ _ _ hb h0) hok.rl.symm hok.mr (fun x hx => by have := hok.rr x hx; omega) (by omega))
  have HLe := Lib.hid (fun w => rLengths_any L t1 t2 w hL ht1 ht2)
  have HC1 := Lib.hid (fun w => rCode_any L (.slice D0 n0 k0) (.slice D1 n1 k1) (.slice D2 n2 k2) (.slice D3 n3 k3) (.slice D4 n4 k4) w (sl _ _ _) (sl _ _ _) (sl _ _ _) (sl _ _ _) (sl _ _ _))
  have HA := Lib.hid (fun A B n c m d a b w ha hb hn hm => rAddP_any L.p A B n c m d a b w hL.p ha hb hn hm)
  have HP := Lib.hid (fun A n c m l w hl hn hm => rPad26_own A n c m l w hl hn hm)
  have HL1 := Lib.hid (fun w' (hb : Below w.heap.size w w') => rLinear25_any L (.slice D0 n0 k0) (.slice D1 n1 k1) (.slice D3 n3 k3) (.slice D4 n4 k4) D2 n2 k2 li w' hL (sl _ _ _) (sl _ _ _) (sl _ _ _) (sl _ _ _) (kept_RWd _ _ _ _ hb h2) (by omega))
  have HW := Lib.hid (fun w' (hb : Below w.heap.size w w') => rWeights_any L pu rho vars A R c rows w' hL hF (kept_RSl kept_RRow _ _ _ _ hb hr) hV)
  have HQ1 := Lib.hid (fun w' (hb : Below w.heap.size w w') => rQuad_any L (.slice D0 n0 k0) (.slice D1 n1 k1) (.slice D2 n2 k2) (.slice D4 n4 k4) D3 n3 k3 qu w' hL (sl _ _ _) (sl _ _ _) (sl _ _ _) (sl _ _ _) (kept_RWd _ _ _ _ hb h3) (by omega))
  obtain ⟨cs, hcs⟩ : ∃ cs, cs = coefD L pu rho rows := ⟨_, rfl⟩
  obtain ⟨rd, hrd⟩ : ∃ rd, rd = rowsD L m r := ⟨_, rfl⟩
  have hcr : ∀ x ∈ cs, x.length = L.block := by rw [hcs]; exact coefD_row
  have hwl : ∀ x ∈ wtD L.p cs, x.length ≤ L.block := fun x hx => by
    obtain ⟨i, hi, rfl⟩ := List.mem_map.1 hx
    rw [wtF, List.length_map, List.length_range, getD_prop hcr (List.mem_range.1 hi)]
    exact Nat.le_refl _
  have hwn : (wtD L.p cs).length = T := by
    rw [wtD, List.length_map, List.length_range, hcs, coefD_len]
    omega
  have hrl : ∀ x ∈ rd, x.length = L.k := by rw [hrd]; exact rowsD_row hL hok
  have hrn : rd.length = T := by rw [hrd, rowsD_len]; exact hTm
  rw [← hcs] at HW ⊢
  have HE1 := Lib.hid (show ansCd L m r co al = padP (addP L.p co (codeD L.p rd al T)) L.k by rw [hrd, ← hTm]; rfl)
  have HE2 := Lib.hid (show ansLd L cs m r li = padP (addP L.p (mlinP L li) (linD L.p rd (wtD L.p cs) T)) t1 by rw [hrd, ← hTm, ht1]; rfl)
  have HE3 := Lib.hid (show ansQd L m r qu be = padP (addP L.p (quadR L qu) (quadD L.p L.a L.b rd be L.b)) t2 by rw [hrd, ht2]; rfl)
  rw [HE1.out, HE2.out, HE3.out]
  have HRD := Lib.hid (show (List.range m.length).map (rowsF L m r) = rd by rw [hrd]; rfl)
  rw [HRD.out] at HRo
  have HRL := Lib.hid (show ∀ x ∈ rd, x.length ≤ 1000 from fun x hx => by rw [hrl x hx]; omega)
  have HWL := Lib.hid (show ∀ x ∈ wtD L.p cs, x.length ≤ 1000 from fun x hx => by have := hwl x hx; omega)
  have HC2 := Lib.hid (fun A c w hr => rCode26_any L A T c al rd w hL hr HRL.out)
  have HL2 := Lib.hid (fun A B c d w hr hs => rLinear26_any L A B T c T d rd (wtD L.p cs) w hL hr hs (Nat.le_refl _) HRL.out HWL.out)
  have HQ2 := Lib.hid (fun A c w hr => rQuad26_any L A T c be rd w hL hr HRL.out (by omega))
  have HRN := Lib.hid (And.intro hrn hwn)
  have s1 := Lib.hid (show (codeD L.p rd al T).length ≤ 1000 from codeD_len (fun x hx => HRL.out x hx) T)
  have s2 := Lib.hid (show (linD L.p rd (wtD L.p cs) T).length ≤ 2000 by have := linD_len (p := L.p) (fun x hx => HRL.out x hx) (fun x hx => HWL.out x hx) T; omega)
  have s3 := Lib.hid (show (quadD L.p L.a L.b rd be L.b).length ≤ 2000 by have := quadD_len (p := L.p) (a := L.a) (b := L.b) (be := be) (fun x hx => HRL.out x hx) L.b; omega)
  have s4 := Lib.hid (show (mlinP L li).length ≤ 2000 by rw [mlinP, List.length_cons]; omega)
  have s5 := Lib.hid (show (quadR L qu).length ≤ 2000 by rw [quadR_eq hL hcq, quadL, List.length_map, List.length_range]; omega)
  have HMX := Lib.hid (show n2 + 1 = (mlinP L li).length by rw [mlinP, List.length_cons, ← e2])
  have hlt := (okP_lt hL.p).2
  have HMT := Lib.hid (show ∀ x ∈ mlinP L li, x < 18446744073709551616 from fun x hx => by
    rcases List.mem_cons.1 hx with h | h
    · rw [h]; exact Nat.lt_trans (linA_lt (by have := okP_lt hL.p; omega) _ _) hlt
    · exact (lw_at h2).2.2.2.1 x h)
  have s6 : n1 ≤ 1000 := by omega
  have HAL := Lib.hid (fun a b => addP_len L.p a b)
  have HT4 := Lib.hid (show L.a + L.b + L.b + L.b = T by omega)
  have gk : L.k ≤ 1000 := by omega
  have gt1 : t1 ≤ 1000 := by omega
  have gt2 : t2 ≤ 1000 := by omega
  have HXA := Lib.hid (show ∀ a b n, ∀ x ∈ padP (addP L.p a b) n, x < 18446744073709551616 from fun a b n => padP_lt (by omega) fun x hx => Nat.lt_trans (trimP_lt (by have := okP_lt hL.p; omega) hx) hlt)
  have HX1 := Lib.hid (HXA.out co (codeD L.p rd al T) L.k)
  have HX2 := Lib.hid (HXA.out (mlinP L li) (linD L.p rd (wtD L.p cs) T) t1)
  have HX3 := Lib.hid (HXA.out (quadR L qu) (quadD L.p L.a L.b rd be L.b) t2)
  clear HXA
  generalize linD L.p rd (wtD L.p cs) T = P2 at *
  generalize codeD L.p rd al T = P1 at *
  generalize quadD L.p L.a L.b rd be L.b = P3 at *
  generalize mlinP L li = M2 at *
  generalize quadR L qu = M3 at *
  clear hbl1 hbl2 hq1 hq2 hk hla hlb hml hTm e1 e2 e3 sl ht1 ht2 hcs hrd hcr hwl hwn hrl hrn HE1 HE2 HE3 HRD hlt hL hF hr hV hm h0 h2 h3 hok hcc hcl hcq
  unfold layCs tabV at *
  obtain ⟨kl, kt, kc, kx, ka, hb0, -⟩ := boxes5 w 39 25 42 32 46 #[.int .u64 (L.p : Int), .int .i64 (L.block : Int), .int .i64 (L.queries : Int), .int .i64 (L.k : Int), .int .i64 (L.n : Int), .int .i64 (L.secret : Int), .int .i64 (L.rows : Int), .int .i64 (L.a : Int), .int .i64 (L.b : Int), .int .i64 (L.b : Int), .int .i64 (L.b : Int)] #[.int .u64 (L.p : Int), .int .i64 (pu : Int), .int .i64 vars, .slice A R c] #[.slice D0 n0 k0, .slice D1 n1 k1, .slice D2 n2 k2, .slice D3 n3 k3, .slice D4 n4 k4] #[.int .u64 (al : Int), .int .u64 (rho : Int), .int .u64 (be : Int)] #[.slice none 0 0, .slice none 0 0, .slice none 0 0]
  go_enter Tryz.func13, Tryz.ntmps13
  go_upto_region 1 with fail
  generalize ((((w.alloc _).alloc _).alloc _).alloc _).alloc _ = w1 at kl kt kc kx ka hb0 ⊢
  have cl := kl.cell
  have cc := kc.cell
  go_wp2_with fail
  refine (HRo.out _ hb0).mono ?_
  rintro e w2 ⟨vR, rfl, hR, hbx⟩
  replace kl := kl.below hbx kl.lt
  replace kt := kt.below hbx kt.lt
  replace kc := kc.below hbx kc.lt
  replace kx := kx.below hbx kx.lt
  replace ka := ka.below hbx ka.lt
  replace hb0 := below_chain hb0 hbx
  clear hbx cl cc HRo
  obtain ⟨AR, nR, cR, rfl⟩ := RSl.slc hR
  have hnR : nR = T := by rw [← (rows_at hR).1]; exact HRN.out.1
  subst hnR
  have cl := kl.cell
  go_wp2_with fail
  refine (HLe.out _).mono ?_
  rintro e w3 ⟨rfl, hbx⟩
  replace kl := kl.below hbx kl.lt
  replace kt := kt.below hbx kt.lt
  replace kc := kc.below hbx kc.lt
  replace kx := kx.below hbx kx.lt
  replace ka := ka.below hbx ka.lt
  replace hb0 := below_chain hb0 hbx
  replace hR := kept_RRows _ _ _ _ hbx hR
  clear hbx cl HLe
  go_upto_region 3 with fail
  have kn := Blk.new w3 87 #[.int .i64 (L.k : Int), .int .i64 (t1 : Int), .int .i64 (t2 : Int)]
  have hal := (Below.refl w3.heap.size w3).alloc (Nat.le_refl _) (.cells #[.int .i64 (L.k : Int), .int .i64 (t1 : Int), .int .i64 (t2 : Int)] 87)
  replace kl := kl.below hal kl.lt
  replace kt := kt.below hal kt.lt
  replace kc := kc.below hal kc.lt
  replace kx := kx.below hal kx.lt
  replace ka := ka.below hal ka.lt
  replace hb0 := below_chain hb0 hal
  replace hR := kept_RRows _ _ _ _ hal hR
  clear hal
  generalize w3.alloc _ = w4 at kl kt kc kx ka kn hb0 hR ⊢
  generalize w3.heap.size = gn at kn ⊢
  have cl := kl.cell
  have ll := kl.lt
  have ct := kt.cell
  have lt := kt.lt
  have cc := kc.cell
  have lc := kc.lt
  have cx := kx.cell
  have lx := kx.lt
  have cn := kn.cell
  have ln := kn.lt
  refine wpV_begin (Later) [4, 9, 10, 13, 18, 25, 26, 27, 30, 35, 40, 41, 44, 46] [46] [0, 1, 2, 3, 5, 6, 7, 8, 11, 12, 14, 15, 16, 17, 19, 20, 21, 22, 23, 24, 28, 29, 31, 32, 33, 34, 36, 37, 38, 39, 42, 43, 4, 9, 10, 13, 18, 25, 26, 27, 30, 35, 40, 41, 44, 45, 46] (by kernel_rfl) (by kernel_rfl) ?_
  refine wpV_startK (later_moves) ?_
  intro Wc HWc hacc
  have hbW : Below w4.heap.size w4 Wc := by rw [HWc.out]; exact (Below.refl _ _).drew
  replace ka := ka.below hbW ka.lt
  replace hb0 := below_chain hb0 hbW
  replace hR := kept_RRows _ _ _ _ hbW hR
  clear hbW
  have h1' := kept_RWd _ _ _ _ hb0 h1
  repeat (first | (refine wpV_skip (later_moves) rfl rfl rfl (fun _ _ _ h => h) ?_ ; simp only [Act.put, List.setIfInBounds_toArray, List.set_cons_zero, List.set_cons_succ]) | (refine wpV_light (v := ?_) (later_moves) rfl rfl rfl (fun _ _ _ h => h) ?_ ?_ ; rotate_left ; (· (intro w' hR ; (first | have hcells := later_cellsD ((later_moves).trans _ _ _ hacc (hR rfl)) | skip) ; clear hR ; go_simp ; try with_reducible rfl)) ; simp only [Act.put, List.setIfInBounds_toArray, List.set_cons_zero, List.set_cons_succ]))
  refine wpV_call (later_moves) rfl rfl rfl (fun _ => by go_simp <;> rfl) ((HC1.out _).mono ?_)
  rintro e w5 ⟨rfl, hb5⟩
  refine ⟨_, rfl, fun _ => hb5, ?_⟩
  replace hacc := (later_moves).trans _ _ _ hacc (hb5)
  simp only [Act.put, List.setIfInBounds_toArray, List.set_cons_zero, List.set_cons_succ]
  replace ka := ka.below hb5 ka.lt
  replace hb0 := below_chain hb0 hb5
  replace hR := kept_RRows _ _ _ _ hb5 hR
  replace h1' := kept_RWd _ _ _ _ hb5 h1'
  clear hb5
  repeat (first | (refine wpV_skip (later_moves) rfl rfl rfl (fun _ _ _ h => h) ?_ ; simp only [Act.put, List.setIfInBounds_toArray, List.set_cons_zero, List.set_cons_succ]) | (refine wpV_light (v := ?_) (later_moves) rfl rfl rfl (fun _ _ _ h => h) ?_ ?_ ; rotate_left ; (· (intro w' hR ; (first | have hcells := later_cellsD ((later_moves).trans _ _ _ hacc (hR rfl)) | skip) ; clear hR ; go_simp ; try with_reducible rfl)) ; simp only [Act.put, List.setIfInBounds_toArray, List.set_cons_zero, List.set_cons_succ]))
  refine wpV_call (later_moves) rfl rfl rfl (fun _ => by go_simp <;> rfl) ((HC2.out _ _ _ hR).mono ?_)
  rintro e w6 ⟨v6, rfl, h6, hb6⟩
  refine ⟨_, rfl, fun _ => hb6, ?_⟩
  replace hacc := (later_moves).trans _ _ _ hacc (hb6)
  simp only [Act.put, List.setIfInBounds_toArray, List.set_cons_zero, List.set_cons_succ]
  obtain ⟨A6, c6, rfl⟩ := rwd_form h6
  replace ka := ka.below hb6 ka.lt
  replace hb0 := below_chain hb0 hb6
  replace hR := kept_RRows _ _ _ _ hb6 hR
  replace h1' := kept_RWd _ _ _ _ hb6 h1'
  clear hb6
  repeat (first | (refine wpV_skip (later_moves) rfl rfl rfl (fun _ _ _ h => h) ?_ ; simp only [Act.put, List.setIfInBounds_toArray, List.set_cons_zero, List.set_cons_succ]) | (refine wpV_light (v := ?_) (later_moves) rfl rfl rfl (fun _ _ _ h => h) ?_ ?_ ; rotate_left ; (· (intro w' hR ; (first | have hcells := later_cellsD ((later_moves).trans _ _ _ hacc (hR rfl)) | skip) ; clear hR ; go_simp ; try with_reducible rfl)) ; simp only [Act.put, List.setIfInBounds_toArray, List.set_cons_zero, List.set_cons_succ]))
  refine wpV_call (later_moves) rfl rfl rfl (fun _ => by go_simp <;> rfl) ((HA.out _ _ _ _ _ _ _ _ _ h1' h6 (by omega) (by have := s1.out; omega)).mono ?_)
  rintro e w7 ⟨v7, rfl, h7, hb7⟩
  refine ⟨_, rfl, fun _ => hb7, ?_⟩
  replace hacc := (later_moves).trans _ _ _ hacc (hb7)
  simp only [Act.put, List.setIfInBounds_toArray, List.set_cons_zero, List.set_cons_succ]
  obtain ⟨A7, c7, rfl⟩ := rwd_form h7
  replace ka := ka.below hb7 ka.lt
  replace hb0 := below_chain hb0 hb7
  replace hR := kept_RRows _ _ _ _ hb7 hR
  clear hb7 h6
  repeat (first | (refine wpV_skip (later_moves) rfl rfl rfl (fun _ _ _ h => h) ?_ ; simp only [Act.put, List.setIfInBounds_toArray, List.set_cons_zero, List.set_cons_succ]) | (refine wpV_light (v := ?_) (later_moves) rfl rfl rfl (fun _ _ _ h => h) ?_ ?_ ; rotate_left ; (· (intro w' hR ; (first | have hcells := later_cellsD ((later_moves).trans _ _ _ hacc (hR rfl)) | skip) ; clear hR ; go_simp ; try with_reducible rfl)) ; simp only [Act.put, List.setIfInBounds_toArray, List.set_cons_zero, List.set_cons_succ]))
  refine wpV_call (later_moves) rfl rfl rfl (fun _ => by go_simp <;> rfl) ((HP.out _ _ _ L.k _ _ h7 (by have := HAL.out co P1; have := s1.out; have := (lw_at h1').1; omega) (by omega)).mono ?_)
  rintro e w8 ⟨v8, rfl, o8, hb8⟩
  refine ⟨_, rfl, fun _ => hb8, ?_⟩
  replace hacc := (later_moves).trans _ _ _ hacc (hb8)
  simp only [Act.put, List.setIfInBounds_toArray, List.set_cons_zero, List.set_cons_succ]
  obtain ⟨A8, c8, rfl, -⟩ := own_form o8
  have hs8 := hb0.size
  have hk8 := ka.lt
  replace o8 := own_base o8 hk8
  replace ka := ka.below hb8 ka.lt
  replace hb0 := below_chain hb0 hb8
  replace hR := kept_RRows _ _ _ _ hb8 hR
  clear hb8 h7 h1'
  repeat (first | (refine wpV_skip (later_moves) rfl rfl rfl (fun _ _ _ h => h) ?_ ; simp only [Act.put, List.setIfInBounds_toArray, List.set_cons_zero, List.set_cons_succ]) | (refine wpV_light (v := ?_) (later_moves) rfl rfl rfl (fun _ _ _ h => h) ?_ ?_ ; rotate_left ; (· (intro w' hR ; (first | have hcells := later_cellsD ((later_moves).trans _ _ _ hacc (hR rfl)) | skip) ; clear hR ; go_simp ; try with_reducible rfl)) ; simp only [Act.put, List.setIfInBounds_toArray, List.set_cons_zero, List.set_cons_succ]))
  refine wpV_call (later_moves) rfl rfl rfl (fun _ => by go_simp <;> rfl) ((HL1.out _ hb0).mono ?_)
  rintro e w9 ⟨v9, rfl, o9, hb9⟩
  refine ⟨_, rfl, fun _ => hb9, ?_⟩
  replace hacc := (later_moves).trans _ _ _ hacc (hb9)
  simp only [Act.put, List.setIfInBounds_toArray, List.set_cons_zero, List.set_cons_succ]
  rw [HMX.out] at o9
  obtain ⟨A9, c9, rfl, -⟩ := own_form o9
  have h9 := lw_own o9 HMT.out
  replace ka := ka.below hb9 ka.lt
  replace hb0 := below_chain hb0 hb9
  replace hR := kept_RRows _ _ _ _ hb9 hR
  replace o8 := own_below o8 hb9 (Nat.le_refl _)
  clear hb9 o9
  repeat (first | (refine wpV_skip (later_moves) rfl rfl rfl (fun _ _ _ h => h) ?_ ; simp only [Act.put, List.setIfInBounds_toArray, List.set_cons_zero, List.set_cons_succ]) | (refine wpV_light (v := ?_) (later_moves) rfl rfl rfl (fun _ _ _ h => h) ?_ ?_ ; rotate_left ; (· (intro w' hR ; (first | have hcells := later_cellsD ((later_moves).trans _ _ _ hacc (hR rfl)) | skip) ; clear hR ; go_simp ; try with_reducible rfl)) ; simp only [Act.put, List.setIfInBounds_toArray, List.set_cons_zero, List.set_cons_succ]))
  refine wpV_call (later_moves) rfl rfl rfl (fun _ => by go_simp <;> rfl) ((HW.out _ hb0).mono ?_)
  rintro e w10 ⟨v10, rfl, h10, hb10⟩
  refine ⟨_, rfl, fun _ => hb10, ?_⟩
  replace hacc := (later_moves).trans _ _ _ hacc (hb10)
  simp only [Act.put, List.setIfInBounds_toArray, List.set_cons_zero, List.set_cons_succ]
  obtain ⟨A10, n10, c10, rfl⟩ := RSl.slc h10
  have hn10 : n10 = nR := by rw [← (rows_at h10).1]; exact HRN.out.2
  subst hn10
  replace ka := ka.below hb10 ka.lt
  replace hb0 := below_chain hb0 hb10
  replace hR := kept_RRows _ _ _ _ hb10 hR
  replace o8 := own_below o8 hb10 (Nat.le_refl _)
  replace h9 := kept_RWd _ _ _ _ hb10 h9
  clear hb10
  repeat (first | (refine wpV_skip (later_moves) rfl rfl rfl (fun _ _ _ h => h) ?_ ; simp only [Act.put, List.setIfInBounds_toArray, List.set_cons_zero, List.set_cons_succ]) | (refine wpV_light (v := ?_) (later_moves) rfl rfl rfl (fun _ _ _ h => h) ?_ ?_ ; rotate_left ; (· (intro w' hR ; (first | have hcells := later_cellsD ((later_moves).trans _ _ _ hacc (hR rfl)) | skip) ; clear hR ; go_simp ; try with_reducible rfl)) ; simp only [Act.put, List.setIfInBounds_toArray, List.set_cons_zero, List.set_cons_succ]))
  refine wpV_call (later_moves) rfl rfl rfl (fun _ => by go_simp <;> rfl) ((HL2.out _ _ _ _ _ hR h10).mono ?_)
  rintro e w11 ⟨v11, rfl, h11, hb11⟩
  refine ⟨_, rfl, fun _ => hb11, ?_⟩
  replace hacc := (later_moves).trans _ _ _ hacc (hb11)
  simp only [Act.put, List.setIfInBounds_toArray, List.set_cons_zero, List.set_cons_succ]
  obtain ⟨A11, c11, rfl⟩ := rwd_form h11
  replace ka := ka.below hb11 ka.lt
  replace hb0 := below_chain hb0 hb11
  replace hR := kept_RRows _ _ _ _ hb11 hR
  replace o8 := own_below o8 hb11 (Nat.le_refl _)
  replace h9 := kept_RWd _ _ _ _ hb11 h9
  clear hb11 h10
  repeat (first | (refine wpV_skip (later_moves) rfl rfl rfl (fun _ _ _ h => h) ?_ ; simp only [Act.put, List.setIfInBounds_toArray, List.set_cons_zero, List.set_cons_succ]) | (refine wpV_light (v := ?_) (later_moves) rfl rfl rfl (fun _ _ _ h => h) ?_ ?_ ; rotate_left ; (· (intro w' hR ; (first | have hcells := later_cellsD ((later_moves).trans _ _ _ hacc (hR rfl)) | skip) ; clear hR ; go_simp ; try with_reducible rfl)) ; simp only [Act.put, List.setIfInBounds_toArray, List.set_cons_zero, List.set_cons_succ]))
  refine wpV_call (later_moves) rfl rfl rfl (fun _ => by go_simp <;> rfl) ((HA.out _ _ _ _ _ _ _ _ _ h9 h11 (by have := s4.out; omega) (by have := s2.out; omega)).mono ?_)
  rintro e w12 ⟨v12, rfl, h12, hb12⟩
  refine ⟨_, rfl, fun _ => hb12, ?_⟩
  replace hacc := (later_moves).trans _ _ _ hacc (hb12)
  simp only [Act.put, List.setIfInBounds_toArray, List.set_cons_zero, List.set_cons_succ]
  obtain ⟨A12, c12, rfl⟩ := rwd_form h12
  replace ka := ka.below hb12 ka.lt
  replace hb0 := below_chain hb0 hb12
  replace hR := kept_RRows _ _ _ _ hb12 hR
  replace o8 := own_below o8 hb12 (Nat.le_refl _)
  clear hb12 h9 h11
  repeat (first | (refine wpV_skip (later_moves) rfl rfl rfl (fun _ _ _ h => h) ?_ ; simp only [Act.put, List.setIfInBounds_toArray, List.set_cons_zero, List.set_cons_succ]) | (refine wpV_light (v := ?_) (later_moves) rfl rfl rfl (fun _ _ _ h => h) ?_ ?_ ; rotate_left ; (· (intro w' hR ; (first | have hcells := later_cellsD ((later_moves).trans _ _ _ hacc (hR rfl)) | skip) ; clear hR ; go_simp ; try with_reducible rfl)) ; simp only [Act.put, List.setIfInBounds_toArray, List.set_cons_zero, List.set_cons_succ]))
  refine wpV_call (later_moves) rfl rfl rfl (fun _ => by go_simp <;> rfl) ((HP.out _ _ _ t1 _ _ h12 (by have := HAL.out M2 P2; have := s2.out; have := s4.out; omega) (by omega)).mono ?_)
  rintro e w13 ⟨v13, rfl, o13, hb13⟩
  refine ⟨_, rfl, fun _ => hb13, ?_⟩
  replace hacc := (later_moves).trans _ _ _ hacc (hb13)
  simp only [Act.put, List.setIfInBounds_toArray, List.set_cons_zero, List.set_cons_succ]
  obtain ⟨A13, c13, rfl, -⟩ := own_form o13
  have hs13 := hb0.size
  have hk13 := ka.lt
  replace o13 := own_base o13 hk13
  replace ka := ka.below hb13 ka.lt
  replace hb0 := below_chain hb0 hb13
  replace hR := kept_RRows _ _ _ _ hb13 hR
  replace o8 := own_below o8 hb13 (Nat.le_refl _)
  clear hb13 h12
  repeat (first | (refine wpV_skip (later_moves) rfl rfl rfl (fun _ _ _ h => h) ?_ ; simp only [Act.put, List.setIfInBounds_toArray, List.set_cons_zero, List.set_cons_succ]) | (refine wpV_light (v := ?_) (later_moves) rfl rfl rfl (fun _ _ _ h => h) ?_ ?_ ; rotate_left ; (· (intro w' hR ; (first | have hcells := later_cellsD ((later_moves).trans _ _ _ hacc (hR rfl)) | skip) ; clear hR ; go_simp ; try with_reducible rfl)) ; simp only [Act.put, List.setIfInBounds_toArray, List.set_cons_zero, List.set_cons_succ]))
  refine wpV_call (later_moves) rfl rfl rfl (fun _ => by go_simp <;> rfl) ((HQ1.out _ hb0).mono ?_)
  rintro e w14 ⟨v14, rfl, h14, hb14⟩
  refine ⟨_, rfl, fun _ => hb14, ?_⟩
  replace hacc := (later_moves).trans _ _ _ hacc (hb14)
  simp only [Act.put, List.setIfInBounds_toArray, List.set_cons_zero, List.set_cons_succ]
  obtain ⟨A14, c14, rfl⟩ := rwd_form h14
  replace ka := ka.below hb14 ka.lt
  replace hb0 := below_chain hb0 hb14
  replace hR := kept_RRows _ _ _ _ hb14 hR
  replace o8 := own_below o8 hb14 (Nat.le_refl _)
  replace o13 := own_below o13 hb14 (Nat.le_refl _)
  clear hb14
  repeat (first | (refine wpV_skip (later_moves) rfl rfl rfl (fun _ _ _ h => h) ?_ ; simp only [Act.put, List.setIfInBounds_toArray, List.set_cons_zero, List.set_cons_succ]) | (refine wpV_light (v := ?_) (later_moves) rfl rfl rfl (fun _ _ _ h => h) ?_ ?_ ; rotate_left ; (· (intro w' hR ; (first | have hcells := later_cellsD ((later_moves).trans _ _ _ hacc (hR rfl)) | skip) ; clear hR ; go_simp ; try with_reducible rfl)) ; simp only [Act.put, List.setIfInBounds_toArray, List.set_cons_zero, List.set_cons_succ]))
  refine wpV_call (later_moves) rfl rfl rfl (fun _ => by go_simp <;> rfl) ((HQ2.out _ _ _ hR).mono ?_)
  rintro e w15 ⟨v15, rfl, h15, hb15⟩
  refine ⟨_, rfl, fun _ => hb15, ?_⟩
  replace hacc := (later_moves).trans _ _ _ hacc (hb15)
  simp only [Act.put, List.setIfInBounds_toArray, List.set_cons_zero, List.set_cons_succ]
  obtain ⟨A15, c15, rfl⟩ := rwd_form h15
  replace ka := ka.below hb15 ka.lt
  replace hb0 := below_chain hb0 hb15
  replace o8 := own_below o8 hb15 (Nat.le_refl _)
  replace o13 := own_below o13 hb15 (Nat.le_refl _)
  replace h14 := kept_RWd _ _ _ _ hb15 h14
  clear hb15 hR
  repeat (first | (refine wpV_skip (later_moves) rfl rfl rfl (fun _ _ _ h => h) ?_ ; simp only [Act.put, List.setIfInBounds_toArray, List.set_cons_zero, List.set_cons_succ]) | (refine wpV_light (v := ?_) (later_moves) rfl rfl rfl (fun _ _ _ h => h) ?_ ?_ ; rotate_left ; (· (intro w' hR ; (first | have hcells := later_cellsD ((later_moves).trans _ _ _ hacc (hR rfl)) | skip) ; clear hR ; go_simp ; try with_reducible rfl)) ; simp only [Act.put, List.setIfInBounds_toArray, List.set_cons_zero, List.set_cons_succ]))
  refine wpV_call (later_moves) rfl rfl rfl (fun _ => by go_simp <;> rfl) ((HA.out _ _ _ _ _ _ _ _ _ h14 h15 (by have := s5.out; omega) (by have := s3.out; omega)).mono ?_)
  rintro e w16 ⟨v16, rfl, h16, hb16⟩
  refine ⟨_, rfl, fun _ => hb16, ?_⟩
  replace hacc := (later_moves).trans _ _ _ hacc (hb16)
  simp only [Act.put, List.setIfInBounds_toArray, List.set_cons_zero, List.set_cons_succ]
  obtain ⟨A16, c16, rfl⟩ := rwd_form h16
  replace ka := ka.below hb16 ka.lt
  replace hb0 := below_chain hb0 hb16
  replace o8 := own_below o8 hb16 (Nat.le_refl _)
  replace o13 := own_below o13 hb16 (Nat.le_refl _)
  clear hb16 h14 h15
  repeat (first | (refine wpV_skip (later_moves) rfl rfl rfl (fun _ _ _ h => h) ?_ ; simp only [Act.put, List.setIfInBounds_toArray, List.set_cons_zero, List.set_cons_succ]) | (refine wpV_light (v := ?_) (later_moves) rfl rfl rfl (fun _ _ _ h => h) ?_ ?_ ; rotate_left ; (· (intro w' hR ; (first | have hcells := later_cellsD ((later_moves).trans _ _ _ hacc (hR rfl)) | skip) ; clear hR ; go_simp ; try with_reducible rfl)) ; simp only [Act.put, List.setIfInBounds_toArray, List.set_cons_zero, List.set_cons_succ]))
  refine wpV_call (later_moves) rfl rfl rfl (fun _ => by go_simp <;> rfl) ((HP.out _ _ _ t2 _ _ h16 (by have := HAL.out M3 P3; have := s3.out; have := s5.out; omega) (by omega)).mono ?_)
  rintro e w17 ⟨v17, rfl, o17, hb17⟩
  refine ⟨_, rfl, fun _ => hb17, ?_⟩
  replace hacc := (later_moves).trans _ _ _ hacc (hb17)
  simp only [Act.put, List.setIfInBounds_toArray, List.set_cons_zero, List.set_cons_succ]
  obtain ⟨A17, c17, rfl, -⟩ := own_form o17
  have hs17 := hb0.size
  have hk17 := ka.lt
  replace o17 := own_base o17 hk17
  replace ka := ka.below hb17 ka.lt
  replace hb0 := below_chain hb0 hb17
  replace o8 := own_below o8 hb17 (Nat.le_refl _)
  replace o13 := own_below o13 hb17 (Nat.le_refl _)
  clear hb17 h16 cl ll ct lt cc lc cx lx cn ln hacc
  have hacc := (later_moves).refl w17
  obtain ⟨ca, fa⟩ := ka.cells'
  repeat (first | (refine wpV_skip (later_moves) rfl rfl rfl (fun _ _ _ h => h) ?_ ; simp only [Act.put, List.setIfInBounds_toArray, List.set_cons_zero, List.set_cons_succ]) | (refine wpV_light (v := ?_) (later_moves) rfl rfl rfl (fun _ _ _ h => h) ?_ ?_ ; rotate_left ; (· (intro w' hR ; (first | have hcells := later_cellsD ((later_moves).trans _ _ _ hacc (hR rfl)) | skip) ; clear hR ; go_simp ; try with_reducible rfl)) ; simp only [Act.put, List.setIfInBounds_toArray, List.set_cons_zero, List.set_cons_succ]))
  refine wpV_heavy (later_moves) rfl rfl rfl ?_
  go_simp
  refine ⟨fun h => Bool.noConfusion h, ?_⟩
  have k3 := set3_blk ka (.slice A8 (padP (addP L.p co P1) L.k).length c8) (.slice A13 (padP (addP L.p M2 P2) t1).length c13) (.slice A17 (padP (addP L.p M3 P3) t2).length c17)
  have hg := set3_grown (w := w17) (g := w.heap.size + 1 + 1 + 1 + 1) (.slice A8 (padP (addP L.p co P1) L.k).length c8) (.slice A13 (padP (addP L.p M2 P2) t1).length c13) (.slice A17 (padP (addP L.p M3 P3) t2).length c17)
  have hla := ka.lt
  replace hb0 := hb0.trans (below_of_only hg hb0.size (by omega))
  replace o8 := own_stay o8 hg (by omega)
  replace o13 := own_stay o13 hg (by omega)
  replace o17 := own_stay o17 hg (by omega)
  generalize ((World.setCell _ _ _).setCell _ _).setCell _ _ = wf at k3 hb0 o8 o13 o17 ⊢
  clear ca fa ka hg hacc
  have hacc := (later_moves).refl wf
  repeat (first | (refine wpV_skip (later_moves) rfl rfl rfl (fun _ _ _ h => h) ?_ ; simp only [Act.put, List.setIfInBounds_toArray, List.set_cons_zero, List.set_cons_succ]) | (refine wpV_light (v := ?_) (later_moves) rfl rfl rfl (fun _ _ _ h => h) ?_ ?_ ; rotate_left ; (· (intro w' hR ; (first | have hcells := later_cellsD ((later_moves).trans _ _ _ hacc (hR rfl)) | skip) ; clear hR ; go_simp ; try with_reducible rfl)) ; simp only [Act.put, List.setIfInBounds_toArray, List.set_cons_zero, List.set_cons_succ]))
  refine wpV_done ?_
  replace o8 := own_base o8 (base' := w.heap.size) (by omega)
  replace o13 := own_base o13 (base' := w.heap.size) (by omega)
  replace o17 := own_base o17 (base' := w.heap.size) (by omega)
  have c4 := k3.cell
  go_wp2
  exact bodyPost_ret (v := .agg #[.slice A8 (padP (addP L.p co P1) L.k).length c8, .slice A13 (padP (addP L.p M2 P2) t1).length c13, .slice A17 (padP (addP L.p M3 P3) t2).length c17]) (by simp [results, Tryz.results13, go_sem, c4]) rfl ⟨_, _, _, rfl, o8, o13, o17, hb0⟩
set_option maxRecDepth 100000 in
set_option maxHeartbeats 8000000 in
theorem pAnswer_any (L : LayR) (pu rho al be : Nat) (vars : Int) (A AM D0 D1 D2 D3 D4 : Option Addr) (R c T cM n0 n1 n2 n3 n4 k0 k1 k2 k3 k4 : Nat) (rows : List RowR) (m r : List (List Nat)) (co li qu sa : List Nat) (w : World)
    (hL : LayOk L) (hF : TabFor L pu vars rows) (hr : RSl 3 RRow w [.slice A R c] rows) (hV : VarsOk vars rows)
    (hm : RRows w [.slice AM T cM] m) (h0 : RRows w [.slice D0 n0 k0] r) (h1 : RWd w [.slice D1 n1 k1] co) (h2 : RWd w [.slice D2 n2 k2] li) (h3 : RWd w [.slice D3 n3 k3] qu) (h4 : RWd w [.slice D4 n4 k4] sa)
    (hco : coinsOk L r co li qu sa = true) (hmT : m.length = L.a + L.b + L.b + L.b) (hml : ∀ x ∈ m, x.length = L.block) :
    Calls Tryz.prog 34 #[.agg (layCs L), tabV L.p (pu : Int) vars (.slice A R c), .slice AM T cM, .agg #[.slice D0 n0 k0, .slice D1 n1 k1, .slice D2 n2 k2, .slice D3 n3 k3, .slice D4 n4 k4], .agg #[.int .u64 (al : Int), .int .u64 (rho : Int), .int .u64 (be : Int)]] w fun e w' => ∃ v1 v2 v3, e = .returned (.tuple #[v1, v2, v3]) ∧
      w'.ownsRow w.heap.size 22 1 v1 L.k (U64 ((List.range L.k).map (pcF L.p L.k al (fun k => co.getD k 0) (ansRow L m r) m.length))) ∧
      w'.ownsRow w.heap.size 22 1 v2 (L.k + L.block - 1) (U64 ((List.range (L.k + L.block - 1)).map (plF L.p (L.k + L.block - 1) (fun k => (mlinP L li).getD k 0) (ansD L (coefP L pu rho rows) m r) m.length))) ∧
      w'.ownsRow w.heap.size 22 1 v3 (2 * L.k - 1) (U64 ((List.range (2 * L.k - 1)).map (pqF L.p L.k (2 * L.k - 1) be (vanP L.p L.block qu qu.length) (ansXY L m r) (ansZ L m r) L.b))) ∧ Below w.heap.size w w' := by
  obtain ⟨hp1, hp2⟩ := okP_lt hL.p
  have hbl1 := hL.b1
  have hbl2 := hL.b2
  have hq1 := hL.q1
  have hq2 := hL.q2
  have hk := hL.k
  have hla := hL.a
  have hlb := hL.b
  have hnk := hL.nk
  obtain ⟨hlen, j0, hj0⟩ := layLen hL
  have hjl : L.block = 2 ^ L.block.log2 := by rw [hj0, Nat.log2_two_pow]
  obtain ⟨hcr, hcrow, hcc, hcl, hcq⟩ := coins_facts hco
  have hTm := (rows_at hm).1
  have hTr := (rows_at h0).1
  have hmd := (rows_at hm).2.2.2
  have hrd := (rows_at h0).2.2.2
  have e1 := (lw_at h1).1
  have e2 := (lw_at h2).1
  have e3 := (lw_at h3).1
  have hTT : T = L.a + L.b + L.b + L.b := by omega
  have hn1 : n1 = L.k := by omega
  have hn0 : T = n0 := by omega
  subst hn1 hn0
  obtain ⟨len, hln⟩ : ∃ len, len = L.k + L.block - 1 := ⟨_, rfl⟩
  obtain ⟨len3, hln3⟩ : ∃ len3, len3 = 2 * L.k - 1 := ⟨_, rfl⟩
  have hn2 : n2 + 1 = len := by omega
  have hn3 : L.block + n3 = len3 := by omega
  have hl2 : 2 ≤ len := by omega
  have hl32 : 2 ≤ len3 := by omega
  obtain ⟨hM1, -⟩ := mul_len hL hl2 (by omega)
  obtain ⟨hM3, -⟩ := mul_len hL hl32 (by omega)
  obtain ⟨hf1, hf2, hf3⟩ := fitsN_spec hl2
  obtain ⟨hg1, hg2, hg3⟩ := fitsN_spec hl32
  have sl := fun A n c => (⟨A, n, c, rfl⟩ : slc (.slice A n c))
  have HTo := Lib.hid (fun w => by have := pTotal_any L.p L.block L.queries L.k L.n L.secret L.rows L.a L.b L.b L.b w hL.a hL.b hL.b hL.b; rw [← hTT] at this; exact this)
  have HVa := Lib.hid (fun w' (hb : Below w.heap.size w w') => by have := mValid_any L D0 D1 D2 D3 D4 T k0 L.k k1 n2 k2 n3 k3 n4 k4 r co li qu sa w' hL (kept_RSl kept_RWd _ _ _ _ hb h0) (kept_RWd _ _ _ _ hb h1) (kept_RWd _ _ _ _ hb h2) (kept_RWd _ _ _ _ hb h3) (kept_RWd _ _ _ _ hb h4); rw [hco] at this; exact this)
  have HCo := Lib.hid (fun w' (hb : Below w.heap.size w w') => mCode_any L (.slice D0 T k0) (.slice D2 n2 k2) (.slice D3 n3 k3) (.slice D4 n4 k4) D1 L.k k1 co w' (sl _ _ _) (sl _ _ _) (sl _ _ _) (sl _ _ _) (kept_RWd _ _ _ _ hb h1) (by omega))
  have HLi := Lib.hid (fun w' (hb : Below w.heap.size w w') => by have := mLinear_any L (.slice D0 T k0) (.slice D1 L.k k1) (.slice D3 n3 k3) (.slice D4 n4 k4) D2 n2 k2 li w' hL (sl _ _ _) (sl _ _ _) (sl _ _ _) (sl _ _ _) (kept_RWd _ _ _ _ hb h2) (by omega); rw [hn2] at this; exact this)
  have HQu := Lib.hid (fun w' (hb : Below w.heap.size w w') => by have := mQuad_any L (.slice D0 T k0) (.slice D1 L.k k1) (.slice D2 n2 k2) (.slice D4 n4 k4) D3 n3 k3 qu w' hL (sl _ _ _) (sl _ _ _) (sl _ _ _) (sl _ _ _) (kept_RWd _ _ _ _ hb h3) (by omega); rw [hn3] at this; exact this)
  have HCf := Lib.hid (fun w' (hb : Below w.heap.size w w') => pCoefs_any L pu rho vars A R c rows w' hL hF (kept_RSl kept_RRow _ _ _ _ hb hr) hV)
  have HMl := Lib.hid (fun a b w => fMul_any L.p a b w hL.p)
  have HNg := Lib.hid (fun a w => fNeg_any L.p a w hL.p)
  have HRow := Lib.hid (fun A c B d msg masks w hl hk' => by have := mRow_any L A B L.block c L.queries d msg masks w hL hl hk' rfl (by omega); rw [← hk] at this; exact this)
  have HInv := Lib.hid (fun A c l w hl => tInverse_any L.p A L.block c L.block.log2 l w hL.p hl hlen hjl)
  have HMu1 := Lib.hid (fun A c B d a b w ha hb => tMultiply_any L.p A B L.block c L.k d ((len - 1).log2 + 1) (fitsN len) len a b w hL.p ha hb (by omega) (by omega) (by omega) (by omega) hM1 hf1 (by omega) hf2 hf3)
  have HMu3 := Lib.hid (fun A c B d a b w ha hb => tMultiply_any L.p A B L.k c L.k d ((len3 - 1).log2 + 1) (fitsN len3) len3 a b w hL.p ha hb (by omega) (by omega) (by omega) (by omega) hM3 hg1 (by omega) hg2 hg3)
  have HAcc := Lib.hid (fun s g base gb na ca nb cb mb t F G w ka kb hg hb ht hm => accumulate_any L.p s g base gb na ca nb cb mb t F G w hL.p ka kb hg hb ht hm)
  have HSp := Lib.hid (show ∀ (g : Nat) (w : World), Calls Tryz.prog 84 #[.agg (layCs L), .slice (some ⟨g, 0, none⟩) T T] w fun e w' => (∃ X1 X2 X3 c1 c2 c3, e = .returned (.tuple #[.slice (some ⟨g, 0, none⟩) L.a T, .slice X1 L.b c1, .slice X2 L.b c2, .slice X3 L.b c3]) ∧ (0 < L.b → X1 = some ⟨g, L.a, none⟩ ∧ X2 = some ⟨g, L.a + L.b, none⟩ ∧ X3 = some ⟨g, L.a + L.b + L.b, none⟩)) ∧ Below w.heap.size w w' from fun g w => by
    have hs := splitL_any L (some ⟨g, 0, none⟩) T T L.a (L.a + L.b) (L.a + L.b + L.b) w hL rfl rfl rfl (by omega) (Nat.le_refl _) (by simp [maxLen]; omega)
    have a1 : L.a + L.b - L.a = L.b := by omega
    have a2 : L.a + L.b + L.b - (L.a + L.b) = L.b := by omega
    have a3 : T - (L.a + L.b + L.b) = L.b := by omega
    unfold cutS at hs
    rw [a1, a2, a3] at hs
    refine hs.mono ?_
    rintro e w' ⟨rfl, hb⟩
    refine ⟨⟨_, _, _, _, _, _, rfl, fun h => ⟨?_, ?_, ?_⟩⟩, hb⟩
    · rw [if_neg (by omega)]
      show some ((⟨g, 0, none⟩ : Addr).add L.a) = _
      rw [add_none, Nat.zero_add]
    · rw [if_neg (by omega)]
      show some ((⟨g, 0, none⟩ : Addr).add (L.a + L.b)) = _
      rw [add_none, Nat.zero_add]
    · rw [if_neg (by omega)]
      show some ((⟨g, 0, none⟩ : Addr).add (L.a + L.b + L.b)) = _
      rw [add_none, Nat.zero_add])
  obtain ⟨N1, hN1⟩ : ∃ N1, N1 = fitsN len := ⟨_, rfl⟩
  obtain ⟨N3, hN3⟩ : ∃ N3, N3 = fitsN len3 := ⟨_, rfl⟩
  have HNN := Lib.hid (show len ≤ N1 ∧ len3 ≤ N3 by rw [hN1, hN3]; exact ⟨hf2, hg2⟩)
  rw [← hN1] at HMu1
  rw [← hN3] at HMu3
  -- what the polynomials are
  obtain ⟨cs0, hcs0⟩ : ∃ cs, cs = coefP L pu rho rows := ⟨_, rfl⟩
  have HCL := Lib.hid (show cs0.length = T by
    rw [hcs0]
    unfold coefP cutL
    rw [cutPre_len, cutPre_len, cutPre_len, cutPre_len]
    simp only [cutPre, sel4, List.range_zero, List.flatMap_nil, List.length_nil]
    simp
    omega)
  have HCR := Lib.hid (show ∀ x ∈ cs0, x.length = L.block by
    rw [hcs0]
    intro x hx
    unfold coefP at hx
    obtain ⟨i, k, -, -, rfl⟩ := cutL_mem hx
    simp [cutRow])
  rw [← hcs0] at HCf
  obtain ⟨Rw, hRw⟩ : ∃ Rw, Rw = ansRow L m r := ⟨_, rfl⟩
  obtain ⟨Rl, hRl⟩ : ∃ Rl : Nat → List Nat, Rl = fun i => (List.range L.k).map (Rw i) := ⟨_, rfl⟩
  obtain ⟨Dv, hDv⟩ : ∃ Dv, Dv = ansD L cs0 m r := ⟨_, rfl⟩
  obtain ⟨XY, hXY⟩ : ∃ XY, XY = ansXY L m r := ⟨_, rfl⟩
  obtain ⟨fC, hfC⟩ : ∃ f, f = pcF L.p L.k al (fun k => co.getD k 0) Rw := ⟨_, rfl⟩
  obtain ⟨fL, hfL⟩ : ∃ f, f = plF L.p len (fun k => (mlinP L li).getD k 0) Dv := ⟨_, rfl⟩
  obtain ⟨fQ, hfQ⟩ : ∃ f, f = pqF L.p L.k len3 be (vanP L.p L.block qu n3) XY (fun j => Rw (L.a + L.b + L.b + j)) := ⟨_, rfl⟩
  obtain ⟨P, hP⟩ : ∃ P, P = powR L.p al := ⟨_, rfl⟩
  obtain ⟨P2, hP2⟩ : ∃ P, P = powR L.p be := ⟨_, rfl⟩
  have HRD := Lib.hid (show ∀ i (h1 : i < m.length) (h2 : i < r.length), mrowP L m[i] r[i] = Rw i from fun i h1 h2 => by
    rw [hRw]
    unfold ansRow
    rw [List.getD_eq_getElem?_getD, List.getD_eq_getElem?_getD, List.getElem?_eq_getElem h1, List.getElem?_eq_getElem h2]
    rfl)
  have HRL := Lib.hid (show ∀ i, (List.range L.k).map (Rw i) = Rl i from fun i => by rw [hRl])
  have HRX := Lib.hid (show ∀ i k, Rw i k < 18446744073709551616 from fun i k => by rw [hRw]; exact Nat.lt_trans (mrowP_lt (by omega) _ _ _) hp2)
  have HIX := Lib.hid (show ∀ l k, invP L.p L.block L.block.log2 l k < 18446744073709551616 from fun l k => Nat.lt_trans (Nat.mod_lt _ (by omega)) hp2)
  have HDD := Lib.hid (show ∀ i (h1 : i < cs0.length), mulF L.p N1 ((len - 1).log2 + 1) ((List.range L.block).map (invP L.p L.block L.block.log2 cs0[i])) (Rl i) = Dv i from fun i h1 => by
    rw [hDv, hN1, hln, hRl, hRw]
    unfold ansD ansLst
    rw [List.getD_eq_getElem?_getD, List.getElem?_eq_getElem h1]
    rfl)
  have HXX := Lib.hid (show ∀ j, mulF L.p N3 ((len3 - 1).log2 + 1) (Rl (L.a + j)) (Rl (L.a + L.b + j)) = XY j from fun j => by
    rw [hXY, hN3, hln3, hRl, hRw]
    rfl)
  have HC0 := Lib.hid (show U64 co = U64 ((List.range L.k).map (fC 0)) by rw [hfC]; show _ = U64 ((List.range L.k).map fun k => co.getD k 0); rw [range_getD co L.k hcc.1])
  have HC1 := Lib.hid (show ∀ i, fC (i + 1) = addTo L.p (P (i + 1)) (fC i) (Rw i) L.k from fun i => by rw [hfC, hP]; rfl)
  have HL0 := Lib.hid (show U64 (mlinP L li) = U64 ((List.range len).map (fL 0)) by rw [hfL]; show _ = U64 ((List.range len).map fun k => (mlinP L li).getD k 0); rw [range_getD (mlinP L li) len (by simp [mlinP]; omega)])
  have HL1 := Lib.hid (show ∀ i, fL (i + 1) = addTo L.p 1 (fL i) (Dv i) len from fun i => by rw [hfL]; rfl)
  have HQ0 := Lib.hid (show vanP L.p L.block qu n3 = fQ 0 by rw [hfQ]; rfl)
  have HQ1 := Lib.hid (show ∀ j, fQ (j + 1) = addTo L.p (negP L.p (P2 (j + 1))) (addTo L.p (P2 (j + 1)) (fQ j) (XY j) len3) (Rw (L.a + L.b + L.b + j)) L.k from fun j => by rw [hfQ, hP2]; rfl)
  have HP0 := Lib.hid (show P 0 = 1 by rw [hP]; rfl)
  have HP1 := Lib.hid (show ∀ i, P (i + 1) = P i * al % L.p from fun i => by rw [hP]; rfl)
  have HR0 := Lib.hid (show P2 0 = 1 by rw [hP2]; rfl)
  have HR1 := Lib.hid (show ∀ i, P2 (i + 1) = P2 i * be % L.p from fun i => by rw [hP2]; rfl)
  have HCX := Lib.hid (show ∀ k, fC T k < 18446744073709551616 from fun k => by
    rw [hfC]
    exact Nat.lt_trans (pcF_lt (by omega) (fun k => getD_lt (by omega) hcc.2 k) _ _) hp2)
  have HLX := Lib.hid (show ∀ k, fL T k < 18446744073709551616 from fun k => by
    rw [hfL]
    refine Nat.lt_trans (plF_lt (by omega) (fun k => ?_) _ _) hp2
    cases k with
    | zero => exact linA_lt (by omega) _ _
    | succ k => exact getD_lt (by omega) hcl.2 k)
  have HQX := Lib.hid (show ∀ k, fQ L.b k < 18446744073709551616 from fun k => by
    rw [hfQ]
    exact Nat.lt_trans (pqF_lt (by omega) (fun k => vanP_lt (by omega) _ _ _) _ _) hp2)
  rw [← hln, ← hln3]
  have HE1 := Lib.hid (show pcF L.p L.k al (fun k => co.getD k 0) (ansRow L m r) m.length = fC T by rw [hfC, hRw, hTm])
  have HE2 := Lib.hid (show plF L.p len (fun k => (mlinP L li).getD k 0) (ansD L (coefP L pu rho rows) m r) m.length = fL T by rw [hfL, hDv, hcs0, hTm])
  have HE3 := Lib.hid (show pqF L.p L.k len3 be (vanP L.p L.block qu qu.length) (ansXY L m r) (ansZ L m r) L.b = fQ L.b by rw [hfQ, hXY, hRw, ← e3]; rfl)
  rw [HE1.out, HE2.out, HE3.out]
  have HML := Lib.hid hml
  have HCW := Lib.hid hcrow
  have HTM := Lib.hid hTm
  have HTR := Lib.hid hTr
  have gk : 4 ≤ L.k ∧ L.k ≤ 320 ∨ 3 ≤ L.k ∧ L.k ≤ 320 := by omega
  have gk1 : 3 ≤ L.k := by omega
  have gk2 : L.k ≤ 320 := by omega
  have gl1 : len ≤ 600 := by omega
  have gl0 : 2 ≤ len := hl2
  have gl3 : len3 ≤ 700 := by omega
  have HT4 := Lib.hid hTT
  have gkl : L.k ≤ len3 := by omega
  have gT : T ≤ 400000 := by omega
  have mk := mk_rows T (by omega)
  have gTi : (T : Int) ≤ 400000 := by omega
  have gT0 : (0 : Int) ≤ (T : Int) := by omega
  have d0 : ((T : Int) != (T : Int)) = false := by simp
  have gb1 : 2 ≤ L.block := hbl1
  have gb2 : L.block ≤ 256 := hbl2
  have glb : (L.b : Int) ≤ 100000 := by omega
  clear hp1 hp2 hbl1 hbl2 hq1 hq2 hk hla hlb hnk hlen hj0 hjl hcr hcrow hcc hcl hcq hTm hTr e1 e2 e3 hTT hn2 hn3 hl2 hl32 hM1 hM3 hf1 hf2 hf3 hg1 hg2 hg3 hL hF hr hV hm h0 h1 h2 h3 h4 hco hmT hml hN1 hN3 hcs0 hRw hRl hDv hXY hfC hfL hfQ hP hP2 gk HE1 HE2 HE3 hln hln3 sl
  unfold layCs tabV fv at *
  obtain ⟨kl, kt, kc, kx, hb0, hsz⟩ := boxes4 w 55 25 42 57 #[.int .u64 (L.p : Int), .int .i64 (L.block : Int), .int .i64 (L.queries : Int), .int .i64 (L.k : Int), .int .i64 (L.n : Int), .int .i64 (L.secret : Int), .int .i64 (L.rows : Int), .int .i64 (L.a : Int), .int .i64 (L.b : Int), .int .i64 (L.b : Int), .int .i64 (L.b : Int)] #[.int .u64 (L.p : Int), .int .i64 (pu : Int), .int .i64 vars, .slice A R c] #[.slice D0 T k0, .slice D1 L.k k1, .slice D2 n2 k2, .slice D3 n3 k3, .slice D4 n4 k4] #[.int .u64 (al : Int), .int .u64 (rho : Int), .int .u64 (be : Int)]
  go_enter Tryz.func34, Tryz.ntmps34
  go_upto_region 1 with fail
  generalize (((w.alloc _).alloc _).alloc _).alloc _ = w1 at kl kt kc kx hb0 hsz ⊢
  have hN : w.heap.size + 4 ≤ w1.heap.size := by omega
  clear hsz
  have cl := kl.cell
  go_wp2_with fail
  refine (HTo.out _).mono ?_
  rintro e w2 ⟨rfl, hbx⟩
  replace kl := kl.below hbx kl.lt
  replace kt := kt.below hbx kt.lt
  replace kc := kc.below hbx kc.lt
  replace kx := kx.below hbx kx.lt
  replace hb0 := below_chain hb0 hbx
  replace hN := Nat.le_trans hN hbx.size
  clear hbx cl
  have cl := kl.cell
  have cc := kc.cell
  go_wp2_with fail
  refine (HVa.out _ hb0).mono ?_
  rintro e w3 ⟨rfl, hbx⟩
  replace kl := kl.below hbx kl.lt
  replace kt := kt.below hbx kt.lt
  replace kc := kc.below hbx kc.lt
  replace kx := kx.below hbx kx.lt
  replace hb0 := below_chain hb0 hbx
  replace hN := Nat.le_trans hN hbx.size
  clear hbx cl cc HTo HVa
  have cl := kl.cell
  go_upto_region 4 with fail
  have kf := Blk.new w3 96 #[.int .u64 (L.p : Int)]
  have hal := (Below.refl w3.heap.size w3).alloc (Nat.le_refl _) (.cells #[.int .u64 (L.p : Int)] 96)
  replace kl := kl.below hal kl.lt
  replace kt := kt.below hal kt.lt
  replace kc := kc.below hal kc.lt
  replace kx := kx.below hal kx.lt
  replace hb0 := below_chain hb0 hal
  generalize w3.alloc _ = w4 at kl kt kc kx kf hb0 ⊢
  obtain ⟨gf, hgf⟩ : ∃ gf, gf = w3.heap.size := ⟨_, rfl⟩
  rw [← hgf] at kf hN ⊢
  have hgf4 := kf.lt
  clear hal cl hgf
  have cl := kl.cell
  have ll := kl.lt
  have cc := kc.cell
  have lc := kc.lt
  refine wpO_begin (Later) [2, 5, 8] [0, 1, 3, 4, 6, 7, 2, 5, 8, 9, 10, 11] (by kernel_rfl) (by kernel_rfl) ?_
  refine wpO_startK (later_moves) ?_
  intro Wc HWc hacc
  have hbW : Below w4.heap.size w4 Wc := by rw [HWc.out]; exact (Below.refl _ _).drew
  replace kl := kl.below hbW kl.lt
  replace kt := kt.below hbW kt.lt
  replace kc := kc.below hbW kc.lt
  replace kx := kx.below hbW kx.lt
  replace kf := kf.below hbW kf.lt
  replace hb0 := below_chain hb0 hbW
  have hgfW : gf < Wc.heap.size := kf.lt
  repeat (first | (refine wpO_skip (later_moves) rfl rfl (fun _ _ _ h => h) ?_ ; simp only [Act.put, List.setIfInBounds_toArray, List.set_cons_zero, List.set_cons_succ]) | (refine wpO_light (v := ?_) (later_moves) rfl rfl (fun _ _ _ h => h) ?_ ?_ ; rotate_left ; (· (intro w' hR ; (first | have hcells := later_cellsD ((later_moves).trans _ _ _ hacc hR) | skip) ; go_simp ; try with_reducible rfl)) ; simp only [Act.put, List.setIfInBounds_toArray, List.set_cons_zero, List.set_cons_succ]))
  refine wpO_call (later_moves) rfl rfl rfl (fun _ => by go_simp <;> rfl) ((HCo.out _ hb0).mono ?_)
  rintro e w5 ⟨v1, rfl, o1, hb5⟩
  refine ⟨_, rfl, hb5, ?_⟩
  replace hacc := (later_moves).trans _ _ _ hacc (hb5)
  simp only [Act.put, List.setIfInBounds_toArray, List.set_cons_zero, List.set_cons_succ]
  obtain ⟨g1, ca1, rfl, hg1, hg1'⟩ := World.ownsRow.form o1 (by omega)
  replace o1 := own_base o1 hb0.size
  replace kl := kl.below hb5 kl.lt
  replace kt := kt.below hb5 kt.lt
  replace kc := kc.below hb5 kc.lt
  replace kx := kx.below hb5 kx.lt
  replace kf := kf.below hb5 kf.lt
  replace hb0 := below_chain hb0 hb5
  repeat (first | (refine wpO_skip (later_moves) rfl rfl (fun _ _ _ h => h) ?_ ; simp only [Act.put, List.setIfInBounds_toArray, List.set_cons_zero, List.set_cons_succ]) | (refine wpO_light (v := ?_) (later_moves) rfl rfl (fun _ _ _ h => h) ?_ ?_ ; rotate_left ; (· (intro w' hR ; (first | have hcells := later_cellsD ((later_moves).trans _ _ _ hacc hR) | skip) ; go_simp ; try with_reducible rfl)) ; simp only [Act.put, List.setIfInBounds_toArray, List.set_cons_zero, List.set_cons_succ]))
  refine wpO_call (later_moves) rfl rfl rfl (fun _ => by go_simp <;> rfl) ((HLi.out _ hb0).mono ?_)
  rintro e w6 ⟨v2, rfl, o2, hb6⟩
  refine ⟨_, rfl, hb6, ?_⟩
  replace hacc := (later_moves).trans _ _ _ hacc (hb6)
  simp only [Act.put, List.setIfInBounds_toArray, List.set_cons_zero, List.set_cons_succ]
  obtain ⟨g2, ca2, rfl, hg2, hg2'⟩ := World.ownsRow.form o2 (by omega)
  replace o2 := own_base o2 hb0.size
  replace kl := kl.below hb6 kl.lt
  replace kt := kt.below hb6 kt.lt
  replace kc := kc.below hb6 kc.lt
  replace kx := kx.below hb6 kx.lt
  replace kf := kf.below hb6 kf.lt
  replace hb0 := below_chain hb0 hb6
  replace o1 := own_below o1 hb6 (Nat.le_refl _)
  repeat (first | (refine wpO_skip (later_moves) rfl rfl (fun _ _ _ h => h) ?_ ; simp only [Act.put, List.setIfInBounds_toArray, List.set_cons_zero, List.set_cons_succ]) | (refine wpO_light (v := ?_) (later_moves) rfl rfl (fun _ _ _ h => h) ?_ ?_ ; rotate_left ; (· (intro w' hR ; (first | have hcells := later_cellsD ((later_moves).trans _ _ _ hacc hR) | skip) ; go_simp ; try with_reducible rfl)) ; simp only [Act.put, List.setIfInBounds_toArray, List.set_cons_zero, List.set_cons_succ]))
  refine wpO_call (later_moves) rfl rfl rfl (fun _ => by go_simp <;> rfl) ((HQu.out _ hb0).mono ?_)
  rintro e w7 ⟨g3, rfl, hg3, k3, hb7⟩
  refine ⟨_, rfl, hb7, ?_⟩
  replace hacc := (later_moves).trans _ _ _ hacc (hb7)
  simp only [Act.put, List.setIfInBounds_toArray, List.set_cons_zero, List.set_cons_succ]
  replace kl := kl.below hb7 kl.lt
  replace kt := kt.below hb7 kt.lt
  replace kc := kc.below hb7 kc.lt
  replace kx := kx.below hb7 kx.lt
  replace kf := kf.below hb7 kf.lt
  replace hb0 := below_chain hb0 hb7
  replace o1 := own_below o1 hb7 (Nat.le_refl _)
  replace o2 := own_below o2 hb7 (Nat.le_refl _)
  have hg3' := k3.lt
  repeat (first | (refine wpO_skip (later_moves) rfl rfl (fun _ _ _ h => h) ?_ ; simp only [Act.put, List.setIfInBounds_toArray, List.set_cons_zero, List.set_cons_succ]) | (refine wpO_light (v := ?_) (later_moves) rfl rfl (fun _ _ _ h => h) ?_ ?_ ; rotate_left ; (· (intro w' hR ; (first | have hcells := later_cellsD ((later_moves).trans _ _ _ hacc hR) | skip) ; go_simp ; try with_reducible rfl)) ; simp only [Act.put, List.setIfInBounds_toArray, List.set_cons_zero, List.set_cons_succ]))
  refine wpO_done ?_
  rw [HC0.out] at o1
  rw [HL0.out] at o2
  rw [HQ0.out] at k3
  clear hbW hb5 hb6 hb7 hacc HWc cl ll cc lc HCo HLi HQu HC0 HL0 HQ0
  have x1 : gf < g1 := by omega
  have x2 : g1 < g2 := by omega
  have x3 : g2 < g3 := by omega
  have x0 : w.heap.size + 4 ≤ gf := hN
  clear hgf4 hgfW hg1 hg1' hg2 hg2' hg3 hN
  go_upto_region 7 with fail
  have kr := Blk.new w7 28 (fillV T fun _ => .slice none 0 0)
  have hal := (Below.refl w7.heap.size w7).alloc (Nat.le_refl _) (.cells (fillV T fun _ => .slice none 0 0) 28)
  replace kl := kl.below hal kl.lt
  replace kt := kt.below hal kt.lt
  replace kc := kc.below hal kc.lt
  replace kx := kx.below hal kx.lt
  replace kf := kf.below hal kf.lt
  replace hb0 := below_chain hb0 hal
  replace o1 := own_below o1 hal (Nat.le_refl _)
  replace o2 := own_below o2 hal (Nat.le_refl _)
  replace k3 := k3.below hal k3.lt
  generalize w7.alloc _ = w8 at kl kt kc kx kf kr hb0 o1 o2 k3 ⊢
  obtain ⟨gr, hgr⟩ : ∃ gr, gr = w7.heap.size := ⟨_, rfl⟩
  rw [← hgr] at kr hg3' ⊢
  have x4 : g3 < gr := hg3'
  have hg8 := kr.lt
  clear hal hgr hg3' mk
  have cl := kl.cell
  have ct := kt.cell
  have cx := kx.cell
  go_wp2_with fail
  refine (HCf.out _ hb0).mono ?_
  rintro e w9 ⟨vC, rfl, hC, hbx⟩
  replace kl := kl.below hbx kl.lt
  replace kc := kc.below hbx kc.lt
  replace kx := kx.below hbx kx.lt
  replace kf := kf.below hbx kf.lt
  replace hb0 := below_chain hb0 hbx
  replace o1 := own_below o1 hbx (Nat.le_refl _)
  replace o2 := own_below o2 hbx (Nat.le_refl _)
  replace k3 := k3.below hbx k3.lt
  replace kr := kr.below hbx kr.lt
  obtain ⟨N, hNe⟩ : ∃ N, N = w8.heap.size := ⟨_, rfl⟩
  rw [← hNe] at hC hg8
  have hN9 : N ≤ w9.heap.size := by have := hbx.size; omega
  have x5 : gr < N := hg8
  clear hbx cl ct cx kt HCf hNe hg8
  obtain ⟨AC, nC, cC, rfl⟩ := RSl.slc hC.here
  have hCn := (rows_at hC.here).1
  have hnC : nC = T := by rw [← hCn]; exact HCL.out
  subst hnC
  clear hCn
  have H1 := Lib.hid (show (1 : Int) = ((P 0 : Nat) : Int) by rw [HP0.out]; rfl)
  have H12 := Lib.hid (show (1 : Int) = ((P2 0 : Nat) : Int) by rw [HR0.out]; rfl)
  go_wp2_with fail
  go_loopw [15, 61] (fun b y wr => ∃ (i : Nat) (CS : Array Value), i ≤ nC ∧ y = .int .i64 (i : Int) ∧ b = .int .u64 (P i : Int) ∧ CS.size = nC ∧ wr.ownsRow w.heap.size 22 1 (.slice (some ⟨g1, 0, none⟩) L.k ca1) L.k (U64 ((List.range L.k).map (fC i))) ∧ wr.ownsRow w.heap.size 22 1 (.slice (some ⟨g2, 0, none⟩) len ca2) len (U64 ((List.range len).map (fL i))) ∧ Blk wr gr 28 CS ∧ BRows N L.k wr CS i Rw ∧ Ex3 g1 g2 gr w9 wr) (fun _ y _ => nC - (intOf y).toNat)
  case atStart => exact ⟨0, _, Nat.zero_le _, rfl, by rw [← H1.out], by simp [fillV], o1, o2, kr, fun k h => by omega, ex3_refl _ _ _ _⟩
  case round =>
    clear o1 o2 kr
    obtain ⟨i, CS, hi, rfl, rfl, hCS, o1, o2, kr, hBR, hx⟩ := hrel
    have kl1 := ex3_blk kl hx (by omega) (by omega) (by omega)
    have kf1 := ex3_blk kf hx (by omega) (by omega) (by omega)
    have kx1 := ex3_blk kx hx (by omega) (by omega) (by omega)
    have kc1 := ex3_blk kc hx (by omega) (by omega) (by omega)
    have hb1 := ex3_to hb0 hx hb0.size (by omega) (by omega) (by omega)
    by_cases hlt : i < nC
    · have q1 : (i : Int) < (nC : Int) := by omega
      have q2 : (0 : Int) ≤ (i : Int) := by omega
      have hic : i < cs0.length := by rw [HCL.out]; exact hlt
      have him : i < m.length := by rw [HTM.out]; exact hlt
      have hir : i < r.length := by rw [HTR.out]; exact hlt
      obtain ⟨bc, qc, Ac, lc0, cc0, rfl, hbcN, hbc, hcc, hrc⟩ := rrx_get hC hic
      have z1 : lc0 = L.block := by rw [(lw_at (hrc w9 fun _ _ _ => rfl)).1]; exact HCR.out _ (List.getElem_mem hic)
      subst z1
      obtain ⟨bm, qm, Am, lm, cm, rfl, hbm, hcm, hrm⟩ := rows_get hmd him
      have z2 : lm = L.block := by rw [(lw_at hrm).1]; exact HML.out _ (List.getElem_mem him)
      subst z2
      obtain ⟨bk, qk, Ak, lk, ck, rfl, hbk, hck, hrk⟩ := rows_get hrd hir
      have z3 : lk = L.queries := by rw [(lw_at hrk).1]; exact (HCW.out _ (List.getElem_mem hir)).1
      subst z3
      have HRDi := Lib.hid (HRD.out i him hir)
      have HDDi := Lib.hid (HDD.out i hic)
      have HRo : Hid (∀ w' : World, Below w.heap.size w w' → Calls Tryz.prog 64 #[.agg #[.int .u64 (L.p : Int), .int .i64 (L.block : Int), .int .i64 (L.queries : Int), .int .i64 (L.k : Int), .int .i64 (L.n : Int), .int .i64 (L.secret : Int), .int .i64 (L.rows : Int), .int .i64 (L.a : Int), .int .i64 (L.b : Int), .int .i64 (L.b : Int), .int .i64 (L.b : Int)], .slice Am L.block cm, .slice Ak L.queries ck] w' fun e w2 => ∃ g, e = .returned (.slice (some ⟨g, 0, none⟩) L.k L.k) ∧ w'.heap.size ≤ g ∧ Blk w2 g 22 (fillC L.k (Rw i)) ∧ Below w'.heap.size w' w2) := Lib.hid (fun w' hb => by rw [← HRDi.out]; exact HRow.out Am cm Ak ck m[i] r[i] w' (kept_RWd _ _ _ _ hb hrm) (kept_RWd _ _ _ _ hb hrk))
      obtain ⟨ci, hci⟩ : ∃ ci, ci = cs0[i] := ⟨_, rfl⟩
      rw [← hci] at hrc HDDi
      have HRC := Lib.hid hrc
      obtain ⟨y0, hy0⟩ : ∃ y, y = P i := ⟨_, rfl⟩
      obtain ⟨y1, hy1⟩ : ∃ y, y = P (i + 1) := ⟨_, rfl⟩
      have HP1i := Lib.hid (HP1.out i)
      have HC1i := Lib.hid (HC1.out i)
      have HL1i := Lib.hid (HL1.out i)
      rw [← hy0, ← hy1] at HP1i
      rw [← hy1] at HC1i
      rw [← hy0]
      have HY1 := Lib.hid hy1
      have HM1 : Hid (∀ w : World, Calls Tryz.prog 56 #[.agg #[.int .u64 (L.p : Int)], .int .u64 (y0 : Int), .int .u64 (al : Int)] w fun e w' => e = .returned (.int .u64 (y1 : Int)) ∧ Below w.heap.size w w') := Lib.hid (fun w => by rw [HP1i.out]; exact HMl.out y0 al w)
      have cci := (cell_agree (hx.2 bc hbc (by omega) (by omega) (by omega))).trans hcc
      have cmi := (hb1.cell (p := ⟨bm, qm + i, none⟩) hbm).trans hcm
      have cki := (hb1.cell (p := ⟨bk, qk + i, none⟩) hbk).trans hck
      have lbm : bm < wr.heap.size := Nat.lt_of_lt_of_le hbm hb1.size
      have lbk : bk < wr.heap.size := Nat.lt_of_lt_of_le hbk hb1.size
      have hN1 : N ≤ wr.heap.size := Nat.le_trans hN9 hx.1.size
      clear hy0 hy1 hci hcc hcm hck hrm hrk hrc
      have cl := kl1.cell
      have ll := kl1.lt
      have cc := kc1.cell
      have lc := kc1.lt
      go_upto_region 10 with fail
      clear cci
      refine wpV_begin (Later) [12, 14] [14] [0, 1, 2, 3, 4, 5, 6, 7, 8, 9, 10, 11, 12, 13, 14] (by kernel_rfl) (by kernel_rfl) ?_
      refine wpV_startK (later_moves) ?_
      intro Wc HWc hacc
      have hbW : Below wr.heap.size wr Wc := by rw [HWc.out]; exact (Below.refl _ _).drew
      replace kf1 := kf1.below hbW kf1.lt
      replace kx1 := kx1.below hbW kx1.lt
      replace kr := kr.below hbW kr.lt
      replace o1 := own_below o1 hbW (Nat.le_refl _)
      replace o2 := own_below o2 hbW (Nat.le_refl _)
      replace hb1 := below_chain hb1 hbW
      replace hx := ex3_trans hx (ex3_below hbW)
      replace hBR := brows_keep hBR (apart_below hbW)
      replace hN1 := Nat.le_trans hN1 hbW.size
      repeat (first | (refine wpV_skip (later_moves) rfl rfl rfl (fun _ _ _ h => h) ?_ ; simp only [Act.put, List.setIfInBounds_toArray, List.set_cons_zero, List.set_cons_succ]) | (refine wpV_light (v := ?_) (later_moves) rfl rfl rfl (fun _ _ _ h => h) ?_ ?_ ; rotate_left ; (· (intro w' hR ; (first | have hcells := later_cellsD ((later_moves).trans _ _ _ hacc (hR rfl)) | skip) ; clear hR ; go_simp ; try with_reducible rfl)) ; simp only [Act.put, List.setIfInBounds_toArray, List.set_cons_zero, List.set_cons_succ]))
      refine wpV_call (later_moves) rfl rfl rfl (fun _ => by go_simp <;> rfl) ((HRo.out _ hb1).mono ?_)
      rintro e wA ⟨gA, rfl, hgA, kA, hbA⟩
      refine ⟨_, rfl, fun _ => hbA, ?_⟩
      replace hacc := (later_moves).trans _ _ _ hacc (hbA)
      simp only [Act.put, List.setIfInBounds_toArray, List.set_cons_zero, List.set_cons_succ]
      replace kf1 := kf1.below hbA kf1.lt
      replace kx1 := kx1.below hbA kx1.lt
      replace kr := kr.below hbA kr.lt
      replace o1 := own_below o1 hbA (Nat.le_refl _)
      replace o2 := own_below o2 hbA (Nat.le_refl _)
      replace hb1 := below_chain hb1 hbA
      replace hx := ex3_trans hx (ex3_below hbA)
      replace hBR := brows_keep hBR (apart_below hbA)
      clear hacc hbW hbA HWc cl ll cc lc cmi cki lbm lbk kl1 kc1
      have hacc := (later_moves).refl wA
      have ckr := kr.cell i
      rw [Array.getElem?_eq_getElem (by omega)] at ckr
      have fkr := kr.frozen
      repeat (first | (refine wpV_skip (later_moves) rfl rfl rfl (fun _ _ _ h => h) ?_ ; simp only [Act.put, List.setIfInBounds_toArray, List.set_cons_zero, List.set_cons_succ]) | (refine wpV_light (v := ?_) (later_moves) rfl rfl rfl (fun _ _ _ h => h) ?_ ?_ ; rotate_left ; (· (intro w' hR ; (first | have hcells := later_cellsD ((later_moves).trans _ _ _ hacc (hR rfl)) | skip) ; clear hR ; go_simp ; try with_reducible rfl)) ; simp only [Act.put, List.setIfInBounds_toArray, List.set_cons_zero, List.set_cons_succ]))
      refine wpV_heavy (later_moves) rfl rfl rfl ?_
      go_simp
      refine ⟨fun h => Bool.noConfusion h, ?_⟩
      have hsg := set_only (w := wA) gr i (.slice (some ⟨gA, 0, none⟩) L.k L.k)
      replace kr := kr.set_ i (.slice (some ⟨gA, 0, none⟩) L.k L.k)
      have kA0 := kA
      replace kA := kA.grown hsg (fun e => by have := Option.some.inj e; omega)
      replace kf1 := kf1.grown hsg (fun e => by have := Option.some.inj e; omega)
      replace kx1 := kx1.grown hsg (fun e => by have := Option.some.inj e; omega)
      replace hBR := brows_keep hBR (apart_grown hsg x5)
      replace o1 := ex3_own o1 (ex3_grown (g1 := gr) (g2 := gr) (g3 := gr) hsg (.inl rfl)) (by omega) (by omega) (by omega)
      replace o2 := ex3_own o2 (ex3_grown (g1 := gr) (g2 := gr) (g3 := gr) hsg (.inl rfl)) (by omega) (by omega) (by omega)
      replace hx := ex3_trans hx (ex3_grown hsg (.inr (.inr rfl)))
      clear kA0 hsg ckr fkr hacc hb1
      generalize wA.setCell _ _ = wB at kr kA kf1 kx1 hBR o1 o2 hx ⊢
      have hacc := (later_moves).refl wB
      repeat (first | (refine wpV_skip (later_moves) rfl rfl rfl (fun _ _ _ h => h) ?_ ; simp only [Act.put, List.setIfInBounds_toArray, List.set_cons_zero, List.set_cons_succ]) | (refine wpV_light (v := ?_) (later_moves) rfl rfl rfl (fun _ _ _ h => h) ?_ ?_ ; rotate_left ; (· (intro w' hR ; (first | have hcells := later_cellsD ((later_moves).trans _ _ _ hacc (hR rfl)) | skip) ; clear hR ; go_simp ; try with_reducible rfl)) ; simp only [Act.put, List.setIfInBounds_toArray, List.set_cons_zero, List.set_cons_succ]))
      refine wpV_done ?_
      replace hBR := brows_set hBR (by omega) (by omega : N ≤ gA) kA
      have hCS2 : (CS.setIfInBounds i (.slice (some ⟨gA, 0, none⟩) L.k L.k)).size = nC := by simp [hCS]
      have hCi : (CS.setIfInBounds i (.slice (some ⟨gA, 0, none⟩) L.k L.k))[i]? = some (.slice (some ⟨gA, 0, none⟩) L.k L.k) := by simp [show i < CS.size by omega]
      generalize CS.setIfInBounds i _ = CS2 at kr hBR hCS2 hCi
      have x6 : N ≤ gA := by omega
      clear hacc hCS hgA hN1
      have cf := kf1.cell
      have cx := kx1.cell
      go_wp2_with fail
      refine (HM1.out _).mono ?_
      rintro e wC ⟨rfl, hbx⟩
      replace kf1 := kf1.below hbx kf1.lt
      replace kx1 := kx1.below hbx kx1.lt
      replace kr := kr.below hbx kr.lt
      replace kA := kA.below hbx kA.lt
      replace o1 := own_below o1 hbx (Nat.le_refl _)
      replace o2 := own_below o2 hbx (Nat.le_refl _)
      replace hBR := brows_keep hBR (apart_below hbx)
      replace hx := ex3_trans hx (ex3_below hbx)
      clear hbx cf cx
      have cf := kf1.cell
      have lf := kf1.lt
      have ckr := kr.cell i
      rw [hCi] at ckr
      have lr := kr.lt
      have x7 : gf ≠ g1 := by omega
      have x8 : gr ≠ g1 := by omega
      go_upto_region 12 with fail
      refine wpO_begin (Only g1) [7] [0, 1, 2, 3, 4, 5, 6, 7] (by kernel_rfl) (by kernel_rfl) ?_
      refine wpO_startK (only_moves g1) ?_
      intro Wc HWc hacc
      have hbW : Below wC.heap.size wC Wc := by rw [HWc.out]; exact (Below.refl _ _).drew
      replace kf1 := kf1.below hbW kf1.lt
      replace kx1 := kx1.below hbW kx1.lt
      replace kr := kr.below hbW kr.lt
      replace kA := kA.below hbW kA.lt
      replace o1 := own_below o1 hbW (Nat.le_refl _)
      replace o2 := own_below o2 hbW (Nat.le_refl _)
      replace hBR := brows_keep hBR (apart_below hbW)
      replace hx := ex3_trans hx (ex3_below hbW)
      repeat (first | (refine wpO_skip (only_moves g1) rfl rfl (fun _ _ _ h => h) ?_ ; simp only [Act.put, List.setIfInBounds_toArray, List.set_cons_zero, List.set_cons_succ]) | (refine wpO_light (v := ?_) (only_moves g1) rfl rfl (fun _ _ _ h => h) ?_ ?_ ; rotate_left ; (· (intro w' hR ; (first | have hcells := only_cellsD ((only_moves g1).trans _ _ _ hacc hR) | skip) ; go_simp ; try with_reducible rfl)) ; simp only [Act.put, List.setIfInBounds_toArray, List.set_cons_zero, List.set_cons_succ]))
      refine wpO_call (only_moves g1) rfl rfl rfl (fun _ => by go_simp <;> rfl) ((HAcc.out y1 g1 w.heap.size gA L.k ca1 L.k L.k L.k L.k (fC i) (Rw i) _ o1 kA (by omega) (Nat.le_refl _) (Nat.min_self _).symm (by omega)).mono ?_)
      rintro e wD ⟨rfl, o1', hgD⟩
      refine ⟨_, rfl, hgD, ?_⟩
      replace hacc := (only_moves g1).trans _ _ _ hacc (hgD)
      simp only [Act.put, List.setIfInBounds_toArray, List.set_cons_zero, List.set_cons_succ]
      repeat (first | (refine wpO_skip (only_moves g1) rfl rfl (fun _ _ _ h => h) ?_ ; simp only [Act.put, List.setIfInBounds_toArray, List.set_cons_zero, List.set_cons_succ]) | (refine wpO_light (v := ?_) (only_moves g1) rfl rfl (fun _ _ _ h => h) ?_ ?_ ; rotate_left ; (· (intro w' hR ; (first | have hcells := only_cellsD ((only_moves g1).trans _ _ _ hacc hR) | skip) ; go_simp ; try with_reducible rfl)) ; simp only [Act.put, List.setIfInBounds_toArray, List.set_cons_zero, List.set_cons_succ]))
      refine wpO_done ?_
      rw [← HC1i.out] at o1'
      replace kA := kA.grown hgD (fun e => by have := Option.some.inj e; omega)
      replace kf1 := kf1.grown hgD (fun e => by have := Option.some.inj e; omega)
      replace kx1 := kx1.grown hgD (fun e => by have := Option.some.inj e; omega)
      replace kr := kr.grown hgD (fun e => by have := Option.some.inj e; omega)
      replace hBR := brows_keep hBR (apart_grown hgD (by omega))
      replace o2 := ex3_own o2 (ex3_grown (g1 := g1) (g2 := g1) (g3 := g1) hgD (.inl rfl)) (by omega) (by omega) (by omega)
      replace hx := ex3_trans hx (ex3_grown hgD (.inl rfl))
      clear hacc hbW HWc cf lf ckr lr hgD o1
      have hap := apart_ex3 (N := N) hx (by omega) (by omega) (by omega)
      have hrc := HRC.out wD (fun b b1 b2 => hap.2 b b1 b2)
      have cf := kf1.cell
      go_wp2_with fail
      refine (HInv.out Ac cc0 ci _ hrc).mono ?_
      rintro e wE ⟨gE, rfl, hgE, kE, hbx⟩
      replace kf1 := kf1.below hbx kf1.lt
      replace kx1 := kx1.below hbx kx1.lt
      replace kr := kr.below hbx kr.lt
      replace kA := kA.below hbx kA.lt
      replace o1' := own_below o1' hbx (Nat.le_refl _)
      replace o2 := own_below o2 hbx (Nat.le_refl _)
      replace hBR := brows_keep hBR (apart_below hbx)
      replace hx := ex3_trans hx (ex3_below hbx)
      clear hbx cf hap hrc
      have hE := fill_rwd kE (fun k _ => HIX.out ci k) (by simp [maxLen]; omega)
      have hA := fill_rwd kA (fun k _ => HRX.out i k) (by simp [maxLen]; omega)
      rw [HRL.out] at hA
      have cf := kf1.cell
      have lf := kf1.lt
      have ckr := kr.cell i
      rw [hCi] at ckr
      have lr := kr.lt
      go_upto_region 14 with fail
      refine wpO_begin (Later) [6] [0, 1, 2, 3, 4, 5, 6, 7, 8, 9, 10, 11] (by kernel_rfl) (by kernel_rfl) ?_
      refine wpO_startK (later_moves) ?_
      intro Wc HWc hacc
      have hbW : Below wE.heap.size wE Wc := by rw [HWc.out]; exact (Below.refl _ _).drew
      replace kf1 := kf1.below hbW kf1.lt
      replace kx1 := kx1.below hbW kx1.lt
      replace kr := kr.below hbW kr.lt
      replace o1' := own_below o1' hbW (Nat.le_refl _)
      replace o2 := own_below o2 hbW (Nat.le_refl _)
      replace hE := kept_RWd _ _ _ _ hbW hE
      replace hA := kept_RWd _ _ _ _ hbW hA
      replace hBR := brows_keep hBR (apart_below hbW)
      replace hx := ex3_trans hx (ex3_below hbW)
      have hW2 : g2 < Wc.heap.size := (o2.lt g2 rfl).2
      repeat (first | (refine wpO_skip (later_moves) rfl rfl (fun _ _ _ h => h) ?_ ; simp only [Act.put, List.setIfInBounds_toArray, List.set_cons_zero, List.set_cons_succ]) | (refine wpO_light (v := ?_) (later_moves) rfl rfl (fun _ _ _ h => h) ?_ ?_ ; rotate_left ; (· (intro w' hR ; (first | have hcells := later_cellsD ((later_moves).trans _ _ _ hacc hR) | skip) ; go_simp ; try with_reducible rfl)) ; simp only [Act.put, List.setIfInBounds_toArray, List.set_cons_zero, List.set_cons_succ]))
      refine wpO_call (later_moves) rfl rfl rfl (fun _ => by go_simp <;> rfl) ((HMu1.out _ _ _ _ _ _ _ hE hA).mono ?_)
      rintro e wF ⟨gF, rfl, hgF, kF, hbF⟩
      refine ⟨_, rfl, hbF, ?_⟩
      replace hacc := (later_moves).trans _ _ _ hacc (hbF)
      simp only [Act.put, List.setIfInBounds_toArray, List.set_cons_zero, List.set_cons_succ]
      replace kf1 := kf1.below hbF kf1.lt
      replace kx1 := kx1.below hbF kx1.lt
      replace kr := kr.below hbF kr.lt
      replace o1' := own_below o1' hbF (Nat.le_refl _)
      replace o2 := own_below o2 hbF (Nat.le_refl _)
      replace hBR := brows_keep hBR (apart_below hbF)
      replace hx := ex3_trans hx (ex3_below hbF)
      rw [HDDi.out] at kF
      repeat (first | (refine wpO_skip (later_moves) rfl rfl (fun _ _ _ h => h) ?_ ; simp only [Act.put, List.setIfInBounds_toArray, List.set_cons_zero, List.set_cons_succ]) | (refine wpO_light (v := ?_) (later_moves) rfl rfl (fun _ _ _ h => h) ?_ ?_ ; rotate_left ; (· (intro w' hR ; (first | have hcells := later_cellsD ((later_moves).trans _ _ _ hacc hR) | skip) ; go_simp ; try with_reducible rfl)) ; simp only [Act.put, List.setIfInBounds_toArray, List.set_cons_zero, List.set_cons_succ]))
      refine wpO_done ?_
      clear hacc hbW HWc cf lf ckr lr hbF hE hA kE kA
      have x9 : g2 ≠ gF := by omega
      have cf := kf1.cell
      go_wp2_with fail
      refine (HAcc.out 1 g2 w.heap.size gF len ca2 len N1 N1 len (fL i) (Dv i) _ o2 kF x9 HNN.out.1 (Nat.min_self _).symm (by omega)).mono ?_
      rintro e wG ⟨rfl, o2', hgG⟩
      rw [← HL1i.out] at o2'
      replace kr := kr.grown hgG (fun e => by have := Option.some.inj e; omega)
      replace hBR := brows_keep hBR (apart_grown hgG (by omega))
      replace o1' := ex3_own o1' (ex3_grown (g1 := g2) (g2 := g2) (g3 := g2) hgG (.inl rfl)) (by omega) (by omega) (by omega)
      replace hx := ex3_trans hx (ex3_grown hgG (.inr (.inl rfl)))
      clear hgG cf kF o2
      go_wp2_with fail
      go_roundw
      case rel => exact ⟨i + 1, CS2, by omega, by go_num, by rw [HY1.out], hCS2, o1', o2', kr, hBR, hx⟩
      case measure => simp [intOf]; omega
    · obtain rfl : i = nC := by omega
      have q1 : ¬ ((i : Int) < (i : Int)) := by omega
      have hN1 : N ≤ wr.heap.size := Nat.le_trans hN9 hx.1.size
      have k3r := ex3_blk k3 hx (by omega) (by omega) (by omega)
      obtain ⟨wo, hwo⟩ : ∃ wo, wo = wr := ⟨_, rfl⟩
      subst hwo
      have cl := kl1.cell
      go_wp2_with fail
      refine (HSp.out gr _).mono ?_
      rintro e wS ⟨⟨X1, X2, X3, c1, c2, c3, rfl, hX⟩, hbx⟩
      replace kf1 := kf1.below hbx kf1.lt
      replace kx1 := kx1.below hbx kx1.lt
      replace kr := kr.below hbx kr.lt
      replace k3r := k3r.below hbx k3r.lt
      replace o1 := own_below o1 hbx (Nat.le_refl _)
      replace o2 := own_below o2 hbx (Nat.le_refl _)
      replace hb1 := below_chain hb1 hbx
      replace hBR := brows_keep hBR (apart_below hbx)
      have HX := Lib.hid hX
      clear hbx cl hX kl1 kc1 kl kf kx kc k3 hx
      go_wp2_with fail
      go_loopw [15, 124] (fun b y wr => ∃ j : Nat, j ≤ L.b ∧ y = .int .i64 (j : Int) ∧ b = .int .u64 (P2 j : Int) ∧ wr.ownsRow w.heap.size 22 1 (.slice (some ⟨g3, 0, none⟩) len3 len3) len3 (U64 ((List.range len3).map (fQ j))) ∧ wS.grownBy wr (some g3)) (fun _ y _ => L.b - (intOf y).toNat)
      case atStart => exact ⟨0, Nat.zero_le _, rfl, by rw [← H12.out], own_fill k3r (by omega) (by simp [maxLen]; omega), grown_refl' _ _⟩
      case round =>
        clear k3r
        obtain ⟨j, hj, rfl, rfl, o3, hg⟩ := hrel
        by_cases hltj : j < L.b
        · obtain ⟨rfl, rfl, rfl⟩ := HX.out (by omega)
          have q2 : (j : Int) < (L.b : Int) := by omega
          have q3 : (0 : Int) ≤ (j : Int) := by omega
          have kf2 := kf1.grown hg (fun e => by have := Option.some.inj e; omega)
          have kx2 := kx1.grown hg (fun e => by have := Option.some.inj e; omega)
          have kr2 := kr.grown hg (fun e => by have := Option.some.inj e; omega)
          have hB2 := brows_keep hBR (apart_grown hg (by omega))
          obtain ⟨ga, hca, hga, ka⟩ := hB2 (L.a + j) (by have := HT4.out; omega)
          obtain ⟨gb, hcb, hgb, kb⟩ := hB2 (L.a + L.b + j) (by have := HT4.out; omega)
          obtain ⟨gz, hcz, hgz, kz⟩ := hB2 (L.a + L.b + L.b + j) (by have := HT4.out; omega)
          have ha := fill_rwd ka (fun k _ => HRX.out _ k) (by simp [maxLen]; omega)
          have hb := fill_rwd kb (fun k _ => HRX.out _ k) (by simp [maxLen]; omega)
          rw [HRL.out] at ha hb
          obtain ⟨y0, hy0⟩ : ∃ y, y = P2 j := ⟨_, rfl⟩
          obtain ⟨y1, hy1⟩ : ∃ y, y = P2 (j + 1) := ⟨_, rfl⟩
          obtain ⟨nz, hnz⟩ : ∃ nz, nz = negP L.p y1 := ⟨_, rfl⟩
          have HR1j := Lib.hid (HR1.out j)
          have HQ1j := Lib.hid (HQ1.out j)
          have HXXj := Lib.hid (HXX.out j)
          rw [← hy0, ← hy1] at HR1j
          rw [← hy1, ← hnz] at HQ1j
          rw [← hy0]
          have HY1 := Lib.hid hy1
          have HM1 : Hid (∀ w : World, Calls Tryz.prog 56 #[.agg #[.int .u64 (L.p : Int)], .int .u64 (y0 : Int), .int .u64 (be : Int)] w fun e w' => e = .returned (.int .u64 (y1 : Int)) ∧ Below w.heap.size w w') := Lib.hid (fun w => by rw [HR1j.out]; exact HMl.out y0 be w)
          have HN1 : Hid (∀ w : World, Calls Tryz.prog 85 #[.agg #[.int .u64 (L.p : Int)], .int .u64 (y1 : Int)] w fun e w' => e = .returned (.int .u64 (nz : Int)) ∧ Below w.heap.size w w') := Lib.hid (fun w => by rw [hnz]; exact HNg.out y1 w)
          clear hy0 hy1 hnz ka kb
          have cf := kf2.cell
          have cx := kx2.cell
          go_wp2_with fail
          refine (HM1.out _).mono ?_
          rintro e wC ⟨rfl, hbx⟩
          replace kf2 := kf2.below hbx kf2.lt
          replace kr2 := kr2.below hbx kr2.lt
          replace kz := kz.below hbx kz.lt
          replace ha := kept_RWd _ _ _ _ hbx ha
          replace hb := kept_RWd _ _ _ _ hbx hb
          replace o3 := own_below o3 hbx (Nat.le_refl _)
          replace hg := grown_below hg hbx hg.size
          clear hbx cf cx kx2 hB2
          have cf := kf2.cell
          have lf := kf2.lt
          have cra := kr2.cell (L.a + j)
          have crb := kr2.cell (L.a + L.b + j)
          rw [hca] at cra
          rw [hcb] at crb
          have lr := kr2.lt
          go_upto_region 23 with fail
          refine wpO_begin (Later) [9] [0, 1, 2, 3, 4, 5, 6, 7, 8, 9, 10, 11, 12, 13, 14] (by kernel_rfl) (by kernel_rfl) ?_
          refine wpO_startK (later_moves) ?_
          intro Wc HWc hacc
          have hbW : Below wC.heap.size wC Wc := by rw [HWc.out]; exact (Below.refl _ _).drew
          replace kf2 := kf2.below hbW kf2.lt
          replace kr2 := kr2.below hbW kr2.lt
          replace kz := kz.below hbW kz.lt
          replace ha := kept_RWd _ _ _ _ hbW ha
          replace hb := kept_RWd _ _ _ _ hbW hb
          replace o3 := own_below o3 hbW (Nat.le_refl _)
          replace hg := grown_below hg hbW hg.size
          have hW3 : g3 < Wc.heap.size := (o3.lt g3 rfl).2
          repeat (first | (refine wpO_skip (later_moves) rfl rfl (fun _ _ _ h => h) ?_ ; simp only [Act.put, List.setIfInBounds_toArray, List.set_cons_zero, List.set_cons_succ]) | (refine wpO_light (v := ?_) (later_moves) rfl rfl (fun _ _ _ h => h) ?_ ?_ ; rotate_left ; (· (intro w' hR ; (first | have hcells := later_cellsD ((later_moves).trans _ _ _ hacc hR) | skip) ; go_simp ; try with_reducible rfl)) ; simp only [Act.put, List.setIfInBounds_toArray, List.set_cons_zero, List.set_cons_succ]))
          refine wpO_call (later_moves) rfl rfl rfl (fun _ => by go_simp <;> rfl) ((HMu3.out _ _ _ _ _ _ _ ha hb).mono ?_)
          rintro e wF ⟨gF, rfl, hgF, kF, hbF⟩
          refine ⟨_, rfl, hbF, ?_⟩
          replace hacc := (later_moves).trans _ _ _ hacc (hbF)
          simp only [Act.put, List.setIfInBounds_toArray, List.set_cons_zero, List.set_cons_succ]
          replace kf2 := kf2.below hbF kf2.lt
          replace kr2 := kr2.below hbF kr2.lt
          replace kz := kz.below hbF kz.lt
          replace o3 := own_below o3 hbF (Nat.le_refl _)
          replace hg := grown_below hg hbF hg.size
          rw [HXXj.out] at kF
          repeat (first | (refine wpO_skip (later_moves) rfl rfl (fun _ _ _ h => h) ?_ ; simp only [Act.put, List.setIfInBounds_toArray, List.set_cons_zero, List.set_cons_succ]) | (refine wpO_light (v := ?_) (later_moves) rfl rfl (fun _ _ _ h => h) ?_ ?_ ; rotate_left ; (· (intro w' hR ; (first | have hcells := later_cellsD ((later_moves).trans _ _ _ hacc hR) | skip) ; go_simp ; try with_reducible rfl)) ; simp only [Act.put, List.setIfInBounds_toArray, List.set_cons_zero, List.set_cons_succ]))
          refine wpO_done ?_
          clear hacc hbW HWc cf lf cra crb lr hbF ha hb
          have x9 : g3 ≠ gF := by omega
          have cf := kf2.cell
          go_wp2_with fail
          refine (HAcc.out y1 g3 w.heap.size gF len3 len3 len3 N3 N3 len3 (fQ j) (XY j) _ o3 kF x9 HNN.out.2 (Nat.min_self _).symm (by omega)).mono ?_
          rintro e wG ⟨rfl, o3', hgG⟩
          replace hg := grown_step hg hgG (fun _ e => .inl e)
          replace kf2 := kf2.grown hgG (fun e => by have := Option.some.inj e; omega)
          replace kr2 := kr2.grown hgG (fun e => by have := Option.some.inj e; omega)
          replace kz := kz.grown hgG (fun e => by have := Option.some.inj e; omega)
          clear hgG cf kF o3
          have cf := kf2.cell
          have lf := kf2.lt
          have crz := kr2.cell (L.a + L.b + L.b + j)
          rw [hcz] at crz
          have lr := kr2.lt
          have x10 : gf ≠ g3 := by omega
          have x11 : gr ≠ g3 := by omega
          go_upto_region 25 with fail
          refine wpO_begin (Only g3) [8, 9] [0, 1, 2, 3, 4, 5, 6, 7, 8, 9] (by kernel_rfl) (by kernel_rfl) ?_
          refine wpO_startK (only_moves g3) ?_
          intro Wc HWc hacc
          have hbW : Below wG.heap.size wG Wc := by rw [HWc.out]; exact (Below.refl _ _).drew
          replace kz := kz.below hbW kz.lt
          replace o3' := own_below o3' hbW (Nat.le_refl _)
          replace hg := grown_below hg hbW hg.size
          repeat (first | (refine wpO_skip (only_moves g3) rfl rfl (fun _ _ _ h => h) ?_ ; simp only [Act.put, List.setIfInBounds_toArray, List.set_cons_zero, List.set_cons_succ]) | (refine wpO_light (v := ?_) (only_moves g3) rfl rfl (fun _ _ _ h => h) ?_ ?_ ; rotate_left ; (· (intro w' hR ; (first | have hcells := only_cellsD ((only_moves g3).trans _ _ _ hacc hR) | skip) ; go_simp ; try with_reducible rfl)) ; simp only [Act.put, List.setIfInBounds_toArray, List.set_cons_zero, List.set_cons_succ]))
          refine wpO_call (only_moves g3) rfl rfl rfl (fun _ => by go_simp <;> rfl) ((HN1.out _).mono ?_)
          rintro e wH ⟨rfl, hbH⟩
          refine ⟨_, rfl, only_of_below hbH, ?_⟩
          replace hacc := (only_moves g3).trans _ _ _ hacc (only_of_below hbH)
          simp only [Act.put, List.setIfInBounds_toArray, List.set_cons_zero, List.set_cons_succ]
          replace kz := kz.below hbH kz.lt
          replace o3' := own_below o3' hbH (Nat.le_refl _)
          replace hg := grown_below hg hbH hg.size
          repeat (first | (refine wpO_skip (only_moves g3) rfl rfl (fun _ _ _ h => h) ?_ ; simp only [Act.put, List.setIfInBounds_toArray, List.set_cons_zero, List.set_cons_succ]) | (refine wpO_light (v := ?_) (only_moves g3) rfl rfl (fun _ _ _ h => h) ?_ ?_ ; rotate_left ; (· (intro w' hR ; (first | have hcells := only_cellsD ((only_moves g3).trans _ _ _ hacc hR) | skip) ; go_simp ; try with_reducible rfl)) ; simp only [Act.put, List.setIfInBounds_toArray, List.set_cons_zero, List.set_cons_succ]))
          refine wpO_call (only_moves g3) rfl rfl rfl (fun _ => by go_simp <;> rfl) ((HAcc.out nz g3 w.heap.size gz len3 len3 L.k L.k L.k L.k (addTo L.p y1 (fQ j) (XY j) len3) (Rw (L.a + L.b + L.b + j)) _ o3' kz (by omega) (Nat.le_refl _) (by omega) (by omega)).mono ?_)
          rintro e wI ⟨rfl, o3'', hgI⟩
          refine ⟨_, rfl, hgI, ?_⟩
          replace hacc := (only_moves g3).trans _ _ _ hacc (hgI)
          simp only [Act.put, List.setIfInBounds_toArray, List.set_cons_zero, List.set_cons_succ]
          repeat (first | (refine wpO_skip (only_moves g3) rfl rfl (fun _ _ _ h => h) ?_ ; simp only [Act.put, List.setIfInBounds_toArray, List.set_cons_zero, List.set_cons_succ]) | (refine wpO_light (v := ?_) (only_moves g3) rfl rfl (fun _ _ _ h => h) ?_ ?_ ; rotate_left ; (· (intro w' hR ; (first | have hcells := only_cellsD ((only_moves g3).trans _ _ _ hacc hR) | skip) ; go_simp ; try with_reducible rfl)) ; simp only [Act.put, List.setIfInBounds_toArray, List.set_cons_zero, List.set_cons_succ]))
          refine wpO_done ?_
          rw [← HQ1j.out] at o3''
          replace hg := grown_step hg hgI (fun _ e => .inl e)
          clear hacc hbW HWc cf lf crz lr hbH hgI o3' kz kf2 kr2
          go_wp2_with fail
          go_roundw
          case rel => exact ⟨j + 1, by omega, by go_num, by rw [HY1.out], o3'', hg⟩
          case measure => simp [intOf]; omega
        · obtain rfl : j = L.b := by omega
          have q2 : ¬ ((L.b : Int) < (L.b : Int)) := by omega
          replace o1 := ex3_own o1 (ex3_grown (g1 := g3) (g2 := g3) (g3 := g3) hg (.inl rfl)) (by omega) (by omega) (by omega)
          replace o2 := ex3_own o2 (ex3_grown (g1 := g3) (g2 := g3) (g3 := g3) hg (.inl rfl)) (by omega) (by omega) (by omega)
          have hE := hb1.trans (below_of_only hg hb1.size (by omega))
          clear hg
          go_wp2
          exact bodyPost_ret (v := .tuple #[.slice (some ⟨g1, 0, none⟩) L.k ca1, .slice (some ⟨g2, 0, none⟩) len ca2, .slice (some ⟨g3, 0, none⟩) len3 len3]) (by simp [results, Tryz.results34, go_sem]) rfl ⟨_, _, _, rfl, o1, o2, o3, hE⟩
end Go.Proofs.YtakjnmojigechaaGreat
