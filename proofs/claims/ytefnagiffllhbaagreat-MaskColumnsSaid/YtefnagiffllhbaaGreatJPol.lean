/-
  MaskPolynomials, for every input: the law returns true and leaves its arguments as they were. No condition.
-/
import Derived.Test.YtefnagiffllhbaaGreatJRow
import Derived.Test.YtefnagiffllhbaaGreatJQ21
import Derived.Test.YtefnagiffllhbaaGreatRows
import Derived.Test.YtefnagiffllhbaaGreatJQ1

/- MaskPW -/
namespace Go.Proofs.YtefnagiffllhbaaGreat
open Go.RowKit

theorem vecP_len (p s : Nat) (r : List Nat) (m : Nat) : (vecP p s r m).length = m := by simp [vecP]

set_option maxRecDepth 100000 in
set_option maxHeartbeats 2000000 in
theorem maskPolynomials_walk (W : World) (cs0 : Array Value) (f0 : Fits Tryz.prog W 30 (Value.agg cs0).cells.toList) (n1 : Int) (f1 : (Lit.int .u64 n1).wf = true) :
    Calls Tryz.prog 4 #[.agg cs0, .int .u64 n1] W fun e W' => e = .returned (.bool true) ∧ Below W.heap.size W W' := by
  obtain ⟨p, pub, vars, A, B, n, c, m, d, rows, ws, bl, bw, qs, rfl, hin⟩ := open_case24 f0
  obtain ⟨s, rfl, hslt⟩ := wf_n64 f1
  clear f0 f1
  have HR := Lib.hid (fun w' (hb : Below W.heap.size W w') => right25_any p pub vars A B n c m d rows ws bl bw qs w' (kept_RSl kept_RRow _ _ _ _ hb hin.rows) (kept_RWd _ _ _ _ hb hin.ws) hin.p)
  have HF := Lib.hid (fun L w hL => rFromSeed_any L s w hL hslt)
  clear hin
  unfold caseCs at *
  have hb0 : Below W.heap.size W (W.alloc (.cells #[.int .u64 (p : Int), .int .i64 pub, .int .i64 vars, .slice A n c, .int .i64 bl, .int .i64 bw, .int .i64 qs, .slice B m d] 30)) := (Below.refl _ W).alloc (Nat.le_refl _) _
  go_enter Tryz.func4, Tryz.ntmps4
  go_wp2_with fail
  generalize W.alloc _ = w0 at hb0 ⊢
  refine (HR.out _ hb0).mono ?_
  rintro e w1 ⟨⟨hpost, -⟩, hb1⟩
  obtain ⟨y0, y1, y2, y3, y4, y5, y6, y7, y8, y9, y10, b, rfl, hL⟩ := hpost
  replace hb0 := below_chain hb0 hb1
  clear hb1 HR
  go_upto_region 2 with fail
  have kl := Blk.new w1 34 #[.int .u64 y0, .int .i64 y1, .int .i64 y2, .int .i64 y3, .int .i64 y4, .int .i64 y5, .int .i64 y6, .int .i64 y7, .int .i64 y8, .int .i64 y9, .int .i64 y10]
  have hal := (Below.refl w1.heap.size w1).alloc (Nat.le_refl _) (.cells #[.int .u64 y0, .int .i64 y1, .int .i64 y2, .int .i64 y3, .int .i64 y4, .int .i64 y5, .int .i64 y6, .int .i64 y7, .int .i64 y8, .int .i64 y9, .int .i64 y10] 34)
  replace hb0 := below_chain hb0 hal
  clear hal
  generalize w1.alloc _ = w2 at kl hb0 ⊢
  generalize w1.heap.size = gl at kl ⊢
  have HL := Lib.hid hL
  clear hL
  go_wp2_with fail
  refine (awake_any _).mono ?_
  rintro e w3 ⟨rfl, hb3⟩
  replace kl := kl.below hb3 kl.lt
  replace hb0 := below_chain hb0 hb3
  clear hb3
  cases b
  · go_wp2_with fail
    refine (awake_any _).mono ?_
    rintro e w4 ⟨rfl, hb4⟩
    go_wp2
    go_ret
    exact ⟨rfl, below_chain hb0 hb4⟩
  · obtain ⟨L, hL, -, hcs⟩ := HL.out rfl
    clear HL
    rw [hcs] at kl
    clear hcs
    obtain ⟨hp1, hp2⟩ := okP_lt hL.p
    have HFL := Lib.hid (fun w => HF.out L w hL)
    have HO := Lib.hid (fun w => own_any L w)
    have HCo := Lib.hid (fun v0 v2 v3 v4 A n c l w h0 h2 h3 h4 hl hn => mCode_any L v0 v2 v3 v4 A n c l w h0 h2 h3 h4 hl hn)
    have HLi := Lib.hid (fun v0 v1 v3 v4 A n c l w h0 h1 h3 h4 hl hn => mLinear_any L v0 v1 v3 v4 A n c l w hL h0 h1 h3 h4 hl hn)
    have HQu := Lib.hid (fun v0 v1 v2 v4 A n c l w h0 h1 h2 h4 hl hn => mQuad_any L v0 v1 v2 v4 A n c l w hL h0 h1 h2 h4 hl hn)
    have RCo := Lib.hid (fun v0 v1 v2 v3 v4 w h0 h1 h2 h3 h4 => rCode_any L v0 v1 v2 v3 v4 w h0 h1 h2 h3 h4)
    have RLi := Lib.hid (fun v0 v1 v3 v4 A n c l w h0 h1 h3 h4 hl hn => rLinear25_any L v0 v1 v3 v4 A n c l w hL h0 h1 h3 h4 hl hn)
    have RQu := Lib.hid (fun v0 v1 v2 v4 A n c l w h0 h1 h2 h4 hl hn => rQuad_any L v0 v1 v2 v4 A n c l w hL h0 h1 h2 h4 hl hn)
    have HPt := Lib.hid (fun w => rPoints_any L w hL)
    have HEv := Lib.hid (fun A n c x l w hl => rEval_any L.p A n c x l w hL.p hl)
    have HAd := Lib.hid (fun a b w => rAdd_any L.p a b w hL.p)
    have HQE := Lib.hid (fun q h => quadR_eq hL (q := q) h)
    have HQV := Lib.hid (fun q k => quad_val hL q k)
    have HLS := Lib.hid (fun l => lin_sum hL l)
    have HVL := Lib.hid (fun q m i k => Nat.lt_trans (vanP_lt (p := L.p) (b := m) (by omega) q i k) hp2)
    have HLL := Lib.hid (fun l k => Nat.lt_trans (linA_lt (p := L.p) (b := L.block) (by omega) l k) hp2)
    have HK1 := Lib.hid hL.k
    have hq2 := hL.q2
    have hq1 := hL.q1
    have hb2 := hL.b2
    have hb1 := hL.b1
    clear hL HF hp1
    unfold layCs at *
    have cl := kl.cell
    have ll := kl.lt
    go_wp2_with fail
    refine (HFL.out _).mono ?_
    rintro e w4 ⟨u0, u1, u2, u3, u4, rfl, r0, r1, r2, r3, r4, hbx⟩
    replace kl := kl.below hbx kl.lt
    replace hb0 := below_chain hb0 hbx
    clear hbx HFL cl ll
    obtain ⟨D0, n0, k0, rfl⟩ := RSl.slc r0
    obtain ⟨D1, k1, rfl⟩ := rwd_form r1
    obtain ⟨D2, k2, rfl⟩ := rwd_form r2
    obtain ⟨D3, k3, rfl⟩ := rwd_form r3
    obtain ⟨D4, k4, rfl⟩ := rwd_form r4
    have z1 := vecP_len L.p s [1] L.k
    have z2 := vecP_len L.p s [2] (L.k + L.block - 2)
    have z3 := vecP_len L.p s [3] (L.block + 2 * L.queries - 1)
    generalize vecP L.p s [1] L.k = co at *
    generalize vecP L.p s [2] (L.k + L.block - 2) = li at *
    generalize vecP L.p s [3] (L.block + 2 * L.queries - 1) = qu at *
    generalize (vecP bigQ s [4] L.n).length = n4 at *
    have hql := HQE.out qu z3
    have hqv := HQV.out qu
    have hls := HLS.out li
    have hlx : ∀ x ∈ mlinP L li, x < 18446744073709551616 := fun x hx => by
      rcases List.mem_cons.1 hx with h | h
      · rw [h]; exact HLL.out _ _
      · exact rwd_lt r2 x h
    have hcx := rwd_lt r1
    have hk1 := HK1.out
    generalize hnc : co.length = nc at *
    generalize hnl : li.length = nl at *
    generalize hnq : qu.length = nq at *
    obtain ⟨tq, htq⟩ : ∃ tq, tq = L.block + nq := ⟨_, rfl⟩
    obtain ⟨tl, htl⟩ : ∃ tl, tl = nl + 1 := ⟨_, rfl⟩
    obtain ⟨f, hf⟩ : ∃ f, f = vanP L.p L.block qu nq := ⟨_, rfl⟩
    obtain ⟨ml, hml⟩ : ∃ ml, ml = mlinP L li := ⟨_, rfl⟩
    obtain ⟨qr, hqr⟩ : ∃ qr, qr = quadL L qu := ⟨_, rfl⟩
    have hfq : (List.range tq).map f = qr := by rw [hqr, htq, hf, quadL, hnq]
    have HFL := Lib.hid (show ∀ i, i < tq → f i < 18446744073709551616 from fun i _ => by rw [hf]; exact HVL.out _ _ _ _)
    have HLi1 := Lib.hid (fun v0 v1 v3 v4 A c w h0 h1 h3 h4 hl => by have := HLi.out v0 v1 v3 v4 A nl c li w h0 h1 h3 h4 hl (by omega); rw [← htl, ← hml] at this; exact this)
    have RLi1 := Lib.hid (fun v0 v1 v3 v4 A c w h0 h1 h3 h4 hl => by have := RLi.out v0 v1 v3 v4 A nl c li w h0 h1 h3 h4 hl (by omega); rw [← htl, ← hml] at this; exact this)
    have HQu1 := Lib.hid (fun v0 v1 v2 v4 A c w h0 h1 h2 h4 hl => by have := HQu.out v0 v1 v2 v4 A nq c qu w h0 h1 h2 h4 hl (by omega); rw [← htq, ← hf] at this; exact this)
    have RQu1 := Lib.hid (fun v0 v1 v2 v4 A c w h0 h1 h2 h4 hl => by have := RQu.out v0 v1 v2 v4 A nq c qu w h0 h1 h2 h4 hl (by omega); rw [hql, ← hqr] at this; exact this)
    rw [← hqr] at hqv
    rw [← hml] at hls hlx
    have HFQ := Lib.hid hfq
    have HQ0 := Lib.hid hqv
    have HL0 := Lib.hid hls
    have HLX := Lib.hid hlx
    have HCX := Lib.hid hcx
    obtain ⟨x2, hx2⟩ : ∃ x2, x2 = 2 * L.k := ⟨_, rfl⟩
    obtain ⟨x3, hx3⟩ : ∃ x3, x3 = L.k + L.block := ⟨_, rfl⟩
    have y1 : (2 : Int) * (L.k : Int) = (x2 : Int) := by omega
    have y2 : IntKind.i64.wrap (x2 : Int) = (x2 : Int) := wr_i64 _ (by omega) (by omega)
    have y3 : (x2 : Int) - 1 = (tq : Int) := by omega
    have y4 : IntKind.i64.wrap (tq : Int) = (tq : Int) := wr_i64 _ (by omega) (by omega)
    have y5 : (L.k : Int) + (L.block : Int) = (x3 : Int) := by omega
    have y6 : IntKind.i64.wrap (x3 : Int) = (x3 : Int) := wr_i64 _ (by omega) (by omega)
    have y7 : (x3 : Int) - 1 = (tl : Int) := by omega
    have y8 : IntKind.i64.wrap (tl : Int) = (tl : Int) := wr_i64 _ (by omega) (by omega)
    have y9 : ((nc : Int) == (L.k : Int)) = true := by rw [beq_iff_eq]; omega
    have htq2 : tq ≤ 2000 := by omega
    have hnc2 : nc ≤ 2000 := by omega
    clear z1 z2 z3 hql hqv hls hlx hcx hf hml hqr hfq htq htl hk1 hx2 hx3 HLi RLi HQu RQu HQE HQV HLS HVL HLL HK1 hnc hnl hnq r0 r4
    have cl := kl.cell
    have ll := kl.lt
    go_upto_region 5 with fail
    have kc := Blk.new w4 41 #[.slice D0 n0 k0, .slice D1 nc k1, .slice D2 nl k2, .slice D3 nq k3, .slice D4 n4 k4]
    have hal := (Below.refl w4.heap.size w4).alloc (Nat.le_refl _) (.cells #[.slice D0 n0 k0, .slice D1 nc k1, .slice D2 nl k2, .slice D3 nq k3, .slice D4 n4 k4] 41)
    replace kl := kl.below hal kl.lt
    replace hb0 := below_chain hb0 hal
    replace r1 := kept_RWd _ _ _ _ hal r1
    replace r2 := kept_RWd _ _ _ _ hal r2
    replace r3 := kept_RWd _ _ _ _ hal r3
    clear hal cl ll
    generalize w4.alloc _ = w5 at kl kc hb0 r1 r2 r3 ⊢
    generalize w4.heap.size = gc at kc ⊢
    have cl := kl.cell
    have ll := kl.lt
    have cc := kc.cell
    have lc := kc.lt
    have sl := fun A n c => (⟨A, n, c, rfl⟩ : slc (.slice A n c))
    refine wpO_begin (Later) [1, 3, 5, 7, 9, 11] [0, 2, 4, 6, 8, 10, 1, 3, 5, 7, 9, 11, 12, 13, 14] (by kernel_rfl) (by kernel_rfl) ?_
    refine wpO_startK (later_moves) ?_
    intro Wc HWc hacc
    have hbW : Below w5.heap.size w5 Wc := by rw [HWc.out]; exact (Below.refl _ _).drew
    replace hb0 := below_chain hb0 hbW
    replace r1 := kept_RWd _ _ _ _ hbW r1
    replace r2 := kept_RWd _ _ _ _ hbW r2
    replace r3 := kept_RWd _ _ _ _ hbW r3
    repeat (first | (refine wpO_skip (later_moves) rfl rfl (fun _ _ _ h => h) ?_ ; simp only [Act.put, List.setIfInBounds_toArray, List.set_cons_zero, List.set_cons_succ]) | (refine wpO_light (v := ?_) (later_moves) rfl rfl (fun _ _ _ h => h) ?_ ?_ ; rotate_left ; (· (intro w' hR ; (first | have hcells := later_cellsD ((later_moves).trans _ _ _ hacc hR) | skip) ; go_simp ; try with_reducible rfl)) ; simp only [Act.put, List.setIfInBounds_toArray, List.set_cons_zero, List.set_cons_succ]))
    refine wpO_call (later_moves) rfl rfl rfl (fun _ => by go_simp <;> rfl) ((HO.out _).mono ?_)
    rintro e v1 ⟨rfl, hbx⟩
    refine ⟨_, rfl, hbx, ?_⟩
    replace hacc := (later_moves).trans _ _ _ hacc (hbx)
    simp only [Act.put, List.setIfInBounds_toArray, List.set_cons_zero, List.set_cons_succ]
    replace hbW := below_chain hbW hbx
    replace hb0 := below_chain hb0 hbx
    replace r1 := kept_RWd _ _ _ _ hbx r1
    replace r2 := kept_RWd _ _ _ _ hbx r2
    replace r3 := kept_RWd _ _ _ _ hbx r3
    clear hbx
    repeat (first | (refine wpO_skip (later_moves) rfl rfl (fun _ _ _ h => h) ?_ ; simp only [Act.put, List.setIfInBounds_toArray, List.set_cons_zero, List.set_cons_succ]) | (refine wpO_light (v := ?_) (later_moves) rfl rfl (fun _ _ _ h => h) ?_ ?_ ; rotate_left ; (· (intro w' hR ; (first | have hcells := later_cellsD ((later_moves).trans _ _ _ hacc hR) | skip) ; go_simp ; try with_reducible rfl)) ; simp only [Act.put, List.setIfInBounds_toArray, List.set_cons_zero, List.set_cons_succ]))
    refine wpO_call (later_moves) rfl rfl rfl (fun _ => by go_simp <;> rfl) ((HCo.out (.slice D0 n0 k0) (.slice D2 nl k2) (.slice D3 nq k3) (.slice D4 n4 k4) D1 nc k1 co _ (sl _ _ _) (sl _ _ _) (sl _ _ _) (sl _ _ _) r1 (by omega)).mono ?_)
    rintro e v2 ⟨a3, rfl, o3, hbx⟩
    refine ⟨_, rfl, hbx, ?_⟩
    replace hacc := (later_moves).trans _ _ _ hacc (hbx)
    simp only [Act.put, List.setIfInBounds_toArray, List.set_cons_zero, List.set_cons_succ]
    replace hbW := below_chain hbW hbx
    replace hb0 := below_chain hb0 hbx
    replace r1 := kept_RWd _ _ _ _ hbx r1
    replace r2 := kept_RWd _ _ _ _ hbx r2
    replace r3 := kept_RWd _ _ _ _ hbx r3
    clear hbx
    obtain ⟨A3, c3, rfl, -⟩ := own_form o3
    have hco := lw_own o3 HCX.out
    clear o3
    repeat (first | (refine wpO_skip (later_moves) rfl rfl (fun _ _ _ h => h) ?_ ; simp only [Act.put, List.setIfInBounds_toArray, List.set_cons_zero, List.set_cons_succ]) | (refine wpO_light (v := ?_) (later_moves) rfl rfl (fun _ _ _ h => h) ?_ ?_ ; rotate_left ; (· (intro w' hR ; (first | have hcells := later_cellsD ((later_moves).trans _ _ _ hacc hR) | skip) ; go_simp ; try with_reducible rfl)) ; simp only [Act.put, List.setIfInBounds_toArray, List.set_cons_zero, List.set_cons_succ]))
    refine wpO_call (later_moves) rfl rfl rfl (fun _ => by go_simp <;> rfl) ((HO.out _).mono ?_)
    rintro e v3 ⟨rfl, hbx⟩
    refine ⟨_, rfl, hbx, ?_⟩
    replace hacc := (later_moves).trans _ _ _ hacc (hbx)
    simp only [Act.put, List.setIfInBounds_toArray, List.set_cons_zero, List.set_cons_succ]
    replace hbW := below_chain hbW hbx
    replace hb0 := below_chain hb0 hbx
    replace r1 := kept_RWd _ _ _ _ hbx r1
    replace r2 := kept_RWd _ _ _ _ hbx r2
    replace r3 := kept_RWd _ _ _ _ hbx r3
    replace hco := kept_RWd _ _ _ _ hbx hco
    clear hbx
    repeat (first | (refine wpO_skip (later_moves) rfl rfl (fun _ _ _ h => h) ?_ ; simp only [Act.put, List.setIfInBounds_toArray, List.set_cons_zero, List.set_cons_succ]) | (refine wpO_light (v := ?_) (later_moves) rfl rfl (fun _ _ _ h => h) ?_ ?_ ; rotate_left ; (· (intro w' hR ; (first | have hcells := later_cellsD ((later_moves).trans _ _ _ hacc hR) | skip) ; go_simp ; try with_reducible rfl)) ; simp only [Act.put, List.setIfInBounds_toArray, List.set_cons_zero, List.set_cons_succ]))
    refine wpO_call (later_moves) rfl rfl rfl (fun _ => by go_simp <;> rfl) ((HLi1.out (.slice D0 n0 k0) (.slice D1 nc k1) (.slice D3 nq k3) (.slice D4 n4 k4) D2 k2 _ (sl _ _ _) (sl _ _ _) (sl _ _ _) (sl _ _ _) r2).mono ?_)
    rintro e v4 ⟨a7, rfl, o7, hbx⟩
    refine ⟨_, rfl, hbx, ?_⟩
    replace hacc := (later_moves).trans _ _ _ hacc (hbx)
    simp only [Act.put, List.setIfInBounds_toArray, List.set_cons_zero, List.set_cons_succ]
    replace hbW := below_chain hbW hbx
    replace hb0 := below_chain hb0 hbx
    replace r1 := kept_RWd _ _ _ _ hbx r1
    replace r2 := kept_RWd _ _ _ _ hbx r2
    replace r3 := kept_RWd _ _ _ _ hbx r3
    replace hco := kept_RWd _ _ _ _ hbx hco
    clear hbx
    obtain ⟨A7, c7, rfl, -⟩ := own_form o7
    have hli := lw_own o7 HLX.out
    clear o7
    repeat (first | (refine wpO_skip (later_moves) rfl rfl (fun _ _ _ h => h) ?_ ; simp only [Act.put, List.setIfInBounds_toArray, List.set_cons_zero, List.set_cons_succ]) | (refine wpO_light (v := ?_) (later_moves) rfl rfl (fun _ _ _ h => h) ?_ ?_ ; rotate_left ; (· (intro w' hR ; (first | have hcells := later_cellsD ((later_moves).trans _ _ _ hacc hR) | skip) ; go_simp ; try with_reducible rfl)) ; simp only [Act.put, List.setIfInBounds_toArray, List.set_cons_zero, List.set_cons_succ]))
    refine wpO_call (later_moves) rfl rfl rfl (fun _ => by go_simp <;> rfl) ((HO.out _).mono ?_)
    rintro e v5 ⟨rfl, hbx⟩
    refine ⟨_, rfl, hbx, ?_⟩
    replace hacc := (later_moves).trans _ _ _ hacc (hbx)
    simp only [Act.put, List.setIfInBounds_toArray, List.set_cons_zero, List.set_cons_succ]
    replace hbW := below_chain hbW hbx
    replace hb0 := below_chain hb0 hbx
    replace r1 := kept_RWd _ _ _ _ hbx r1
    replace r2 := kept_RWd _ _ _ _ hbx r2
    replace r3 := kept_RWd _ _ _ _ hbx r3
    replace hco := kept_RWd _ _ _ _ hbx hco
    replace hli := kept_RWd _ _ _ _ hbx hli
    clear hbx
    repeat (first | (refine wpO_skip (later_moves) rfl rfl (fun _ _ _ h => h) ?_ ; simp only [Act.put, List.setIfInBounds_toArray, List.set_cons_zero, List.set_cons_succ]) | (refine wpO_light (v := ?_) (later_moves) rfl rfl (fun _ _ _ h => h) ?_ ?_ ; rotate_left ; (· (intro w' hR ; (first | have hcells := later_cellsD ((later_moves).trans _ _ _ hacc hR) | skip) ; go_simp ; try with_reducible rfl)) ; simp only [Act.put, List.setIfInBounds_toArray, List.set_cons_zero, List.set_cons_succ]))
    refine wpO_call (later_moves) rfl rfl rfl (fun _ => by go_simp <;> rfl) ((HQu1.out (.slice D0 n0 k0) (.slice D1 nc k1) (.slice D2 nl k2) (.slice D4 n4 k4) D3 k3 _ (sl _ _ _) (sl _ _ _) (sl _ _ _) (sl _ _ _) r3).mono ?_)
    rintro e wf ⟨g9, rfl, hg9, k11, hbx⟩
    refine ⟨_, rfl, hbx, ?_⟩
    replace hacc := (later_moves).trans _ _ _ hacc (hbx)
    simp only [Act.put, List.setIfInBounds_toArray, List.set_cons_zero, List.set_cons_succ]
    replace hbW := below_chain hbW hbx
    replace hb0 := below_chain hb0 hbx
    replace r1 := kept_RWd _ _ _ _ hbx r1
    replace r2 := kept_RWd _ _ _ _ hbx r2
    replace r3 := kept_RWd _ _ _ _ hbx r3
    replace hco := kept_RWd _ _ _ _ hbx hco
    replace hli := kept_RWd _ _ _ _ hbx hli
    clear hbx hg9
    have hqu := fill_rwd k11 HFL.out (by simp [maxLen]; omega)
    rw [HFQ.out] at hqu
    repeat (first | (refine wpO_skip (later_moves) rfl rfl (fun _ _ _ h => h) ?_ ; simp only [Act.put, List.setIfInBounds_toArray, List.set_cons_zero, List.set_cons_succ]) | (refine wpO_light (v := ?_) (later_moves) rfl rfl (fun _ _ _ h => h) ?_ ?_ ; rotate_left ; (· (intro w' hR ; (first | have hcells := later_cellsD ((later_moves).trans _ _ _ hacc hR) | skip) ; go_simp ; try with_reducible rfl)) ; simp only [Act.put, List.setIfInBounds_toArray, List.set_cons_zero, List.set_cons_succ]))
    refine wpO_done ?_
    replace kl := kl.below hbW kl.lt
    replace kc := kc.below hbW kc.lt
    clear hbW HWc hacc k11 cl ll cc lc HFQ HFL HLX HCX HO HCo HLi1 HQu1
    have cl := kl.cell
    have ll := kl.lt
    have cc := kc.cell
    have lc := kc.lt
    go_wp2_with fail
    refine (RCo.out _ _ _ _ _ _ (sl _ _ _) (sl _ _ _) (sl _ _ _) (sl _ _ _) (sl _ _ _)).mono ?_
    rintro e w6 ⟨rfl, hbx⟩
    replace kl := kl.below hbx kl.lt
    replace kc := kc.below hbx kc.lt
    replace hb0 := below_chain hb0 hbx
    replace r1 := kept_RWd _ _ _ _ hbx r1
    replace r2 := kept_RWd _ _ _ _ hbx r2
    replace r3 := kept_RWd _ _ _ _ hbx r3
    replace hco := kept_RWd _ _ _ _ hbx hco
    replace hli := kept_RWd _ _ _ _ hbx hli
    replace hqu := kept_RWd _ _ _ _ hbx hqu
    clear hbx cl ll cc lc
    have HS := Lib.hid (by have := rSame01_any _ _ _ _ _ _ _ _ _ hco r1; rw [decide_eq_true rfl] at this; exact this)
    go_wp2_with fail
    refine HS.out.mono ?_
    rintro e w7 ⟨rfl, hbx⟩
    replace kl := kl.below hbx kl.lt
    replace kc := kc.below hbx kc.lt
    replace hb0 := below_chain hb0 hbx
    replace r2 := kept_RWd _ _ _ _ hbx r2
    replace r3 := kept_RWd _ _ _ _ hbx r3
    replace hco := kept_RWd _ _ _ _ hbx hco
    replace hli := kept_RWd _ _ _ _ hbx hli
    replace hqu := kept_RWd _ _ _ _ hbx hqu
    clear hbx HS
    have cl := kl.cell
    have ll := kl.lt
    have cc := kc.cell
    have lc := kc.lt
    go_wp2_with fail
    refine (RLi1.out _ _ _ _ _ _ _ (sl _ _ _) (sl _ _ _) (sl _ _ _) (sl _ _ _) r2).mono ?_
    rintro e w8 ⟨v8, rfl, ho8, hbx⟩
    replace kl := kl.below hbx kl.lt
    replace kc := kc.below hbx kc.lt
    replace hb0 := below_chain hb0 hbx
    replace r3 := kept_RWd _ _ _ _ hbx r3
    replace hco := kept_RWd _ _ _ _ hbx hco
    replace hli := kept_RWd _ _ _ _ hbx hli
    replace hqu := kept_RWd _ _ _ _ hbx hqu
    clear hbx cl ll cc lc r2
    obtain ⟨A8, c8, rfl, -⟩ := own_form ho8
    have HS := Lib.hid (by have := rSame01_any _ _ _ _ _ _ _ _ _ hli (lw_own ho8 (rwd_lt hli)); rw [decide_eq_true rfl] at this; exact this)
    clear ho8
    go_wp2_with fail
    refine HS.out.mono ?_
    rintro e w9 ⟨rfl, hbx⟩
    replace kl := kl.below hbx kl.lt
    replace kc := kc.below hbx kc.lt
    replace hb0 := below_chain hb0 hbx
    replace r3 := kept_RWd _ _ _ _ hbx r3
    replace hco := kept_RWd _ _ _ _ hbx hco
    replace hli := kept_RWd _ _ _ _ hbx hli
    replace hqu := kept_RWd _ _ _ _ hbx hqu
    clear hbx HS
    have cl := kl.cell
    have ll := kl.lt
    have cc := kc.cell
    have lc := kc.lt
    go_wp2_with fail
    refine (RQu1.out _ _ _ _ _ _ _ (sl _ _ _) (sl _ _ _) (sl _ _ _) (sl _ _ _) r3).mono ?_
    rintro e w10 ⟨v10, rfl, h10, hbx⟩
    replace kl := kl.below hbx kl.lt
    replace hb0 := below_chain hb0 hbx
    replace hco := kept_RWd _ _ _ _ hbx hco
    replace hli := kept_RWd _ _ _ _ hbx hli
    replace hqu := kept_RWd _ _ _ _ hbx hqu
    clear hbx cl ll cc lc r3 kc
    obtain ⟨A10, c10, rfl⟩ := rwd_form h10
    have HS := Lib.hid (by have := rSame01_any _ _ _ _ _ _ _ _ _ hqu h10; rw [decide_eq_true rfl] at this; exact this)
    clear h10
    go_wp2_with fail
    refine HS.out.mono ?_
    rintro e w11 ⟨rfl, hbx⟩
    replace kl := kl.below hbx kl.lt
    replace hb0 := below_chain hb0 hbx
    replace hco := kept_RWd _ _ _ _ hbx hco
    replace hli := kept_RWd _ _ _ _ hbx hli
    replace hqu := kept_RWd _ _ _ _ hbx hqu
    clear hbx HS
    have cl := kl.cell
    have ll := kl.lt
    go_wp2_with fail
    refine (HPt.out _).mono ?_
    rintro e w12 ⟨v1, v2, rfl, hpa, hpb, hbx⟩
    replace kl := kl.below hbx kl.lt
    replace hb0 := below_chain hb0 hbx
    replace hli := kept_RWd _ _ _ _ hbx hli
    replace hqu := kept_RWd _ _ _ _ hbx hqu
    clear hbx cl ll
    have HPG := Lib.hid (show ∀ k, k < L.block → ((List.range L.block).map (domR L.p 1 L.block)).getD k 0 = domR L.p 1 L.block k from fun k hk => by rw [range_get, if_pos hk])
    have HPL := Lib.hid (show ((List.range L.block).map (domR L.p 1 L.block)).length = L.block by simp)
    obtain ⟨Ab, cb, rfl⟩ := rwd_form hpb
    clear hpb hco
    generalize (List.range L.block).map (domR L.p 1 L.block) = P at *
    obtain ⟨Ap, cpp, rfl⟩ := rwd_form hpa
    have hrp := (lw_at hpa).2.2.2.2
    have gp : (P.length : Int) ≤ 256 := by have := HPL.out; omega
    obtain ⟨g, hg⟩ : ∃ g, g = fun k => evalP L.p ml (domR L.p 1 L.block k) := ⟨_, rfl⟩
    have HG := Lib.hid (show ∀ k, g k = evalP L.p ml (domR L.p 1 L.block k) from fun k => by rw [hg])
    rw [← hg] at HL0
    obtain ⟨S, hS⟩ : ∃ S, S = sumV L.p g := ⟨_, rfl⟩
    have HS0 := Lib.hid (show S 0 = 0 by rw [hS]; rfl)
    have HS1 := Lib.hid (show ∀ k, S (k + 1) = (S k + g k) % L.p from fun k => by rw [hS]; rfl)
    have HSN := Lib.hid (show S P.length = 0 by rw [hS, HPL.out]; exact HL0.out)
    clear hpa hg hS HL0 RQu1 RLi1 RCo HPt
    go_wp2_with fail
    go_loopw [13, 72] (fun x y wr => ∃ k : Nat, k ≤ P.length ∧ y = .int .i64 (k : Int) ∧ x = .int .u64 (S k : Int) ∧ Below w12.heap.size w12 wr) (fun _ y _ => P.length - (intOf y).toNat)
    case atStart => exact ⟨0, Nat.zero_le _, rfl, by rw [HS0.out]; rfl, Below.refl _ _⟩
    case round =>
      obtain ⟨k, hk, rfl, rfl, hb⟩ := hrel
      have kl2 := kl.below hb kl.lt
      have cl := kl2.cell
      have ll := kl2.lt
      by_cases hlt : k < P.length
      · have q2 : (k : Int) < (P.length : Int) := by omega
        have q3 : (0 : Int) ≤ (k : Int) := by omega
        obtain ⟨bp, qp, rfl, hbp, hcp⟩ := lw_get (hrp.below hb) hlt
        have hli2 := kept_RWd _ _ _ _ hb hli
        have hqu2 := kept_RWd _ _ _ _ hb hqu
        obtain ⟨y, hy⟩ : ∃ y, y = P.getD k 0 := ⟨_, rfl⟩
        rw [← hy] at hcp
        have hlb : k < L.block := by have := HPL.out; omega
        obtain ⟨z, hz⟩ : ∃ z, z = g k := ⟨_, rfl⟩
        obtain ⟨t, ht⟩ : ∃ t, t = S k := ⟨_, rfl⟩
        obtain ⟨t2, ht2⟩ : ∃ t2, t2 = S (k + 1) := ⟨_, rfl⟩
        have ez : evalP L.p ml y = z := by rw [hy, HPG.out k hlb, hz, HG.out]
        have eq0 : evalP L.p qr y = 0 := by rw [hy, HPG.out k hlb]; exact HQ0.out k
        have HE1 := Lib.hid (fun w' (hb' : Below wr.heap.size wr w') => by have := HEv.out _ _ _ y ml w' (kept_RWd _ _ _ _ hb' hli2); rw [ez] at this; exact this)
        have HE2 := Lib.hid (fun w' (hb' : Below wr.heap.size wr w') => by have := HEv.out _ _ _ y qr w' (kept_RWd _ _ _ _ hb' hqu2); rw [eq0] at this; exact this)
        have HA1 := Lib.hid (fun w => by have := HAd.out t z w; rw [ht, hz, ← HS1.out, ← ht2] at this; exact this)
        have HT2 := Lib.hid ht2
        rw [← ht] at HA1 ⊢
        rw [← hz] at HA1
        clear hy hz ez eq0 hlb ht ht2 hli2 hqu2
        go_upto_region 13 with fail
        refine wpO_begin (Later) [7, 8] [0, 1, 2, 3, 4, 5, 6, 7, 8, 9] (by kernel_rfl) (by kernel_rfl) ?_
        refine wpO_startK (later_moves) ?_
        intro Wc HWc hacc
        have hbW : Below wr.heap.size wr Wc := by rw [HWc.out]; exact (Below.refl _ _).drew
        repeat (first | (refine wpO_skip (later_moves) rfl rfl (fun _ _ _ h => h) ?_ ; simp only [Act.put, List.setIfInBounds_toArray, List.set_cons_zero, List.set_cons_succ]) | (refine wpO_light (v := ?_) (later_moves) rfl rfl (fun _ _ _ h => h) ?_ ?_ ; rotate_left ; (· (intro w' hR ; (first | have hcells := later_cellsD ((later_moves).trans _ _ _ hacc hR) | skip) ; go_simp ; try with_reducible rfl)) ; simp only [Act.put, List.setIfInBounds_toArray, List.set_cons_zero, List.set_cons_succ]))
        refine wpO_call (later_moves) rfl rfl rfl (fun _ => by go_simp <;> rfl) ((HE1.out _ hbW).mono ?_)
        rintro e w13 ⟨rfl, hbx⟩
        refine ⟨_, rfl, hbx, ?_⟩
        replace hacc := (later_moves).trans _ _ _ hacc (hbx)
        simp only [Act.put, List.setIfInBounds_toArray, List.set_cons_zero, List.set_cons_succ]
        repeat (first | (refine wpO_skip (later_moves) rfl rfl (fun _ _ _ h => h) ?_ ; simp only [Act.put, List.setIfInBounds_toArray, List.set_cons_zero, List.set_cons_succ]) | (refine wpO_light (v := ?_) (later_moves) rfl rfl (fun _ _ _ h => h) ?_ ?_ ; rotate_left ; (· (intro w' hR ; (first | have hcells := later_cellsD ((later_moves).trans _ _ _ hacc hR) | skip) ; go_simp ; try with_reducible rfl)) ; simp only [Act.put, List.setIfInBounds_toArray, List.set_cons_zero, List.set_cons_succ]))
        refine wpO_call (later_moves) rfl rfl rfl (fun _ => by go_simp <;> rfl) ((HA1.out _).mono ?_)
        rintro e w14 ⟨rfl, hby⟩
        refine ⟨_, rfl, hby, ?_⟩
        replace hacc := (later_moves).trans _ _ _ hacc (hby)
        simp only [Act.put, List.setIfInBounds_toArray, List.set_cons_zero, List.set_cons_succ]
        repeat (first | (refine wpO_skip (later_moves) rfl rfl (fun _ _ _ h => h) ?_ ; simp only [Act.put, List.setIfInBounds_toArray, List.set_cons_zero, List.set_cons_succ]) | (refine wpO_light (v := ?_) (later_moves) rfl rfl (fun _ _ _ h => h) ?_ ?_ ; rotate_left ; (· (intro w' hR ; (first | have hcells := later_cellsD ((later_moves).trans _ _ _ hacc hR) | skip) ; go_simp ; try with_reducible rfl)) ; simp only [Act.put, List.setIfInBounds_toArray, List.set_cons_zero, List.set_cons_succ]))
        refine wpO_done ?_
        have hbz := below_chain (below_chain hbW hbx) hby
        clear hacc HWc hbx hby hbW cl ll hcp hbp
        replace kl2 := kl2.below hbz kl2.lt
        have cl := kl2.cell
        have ll := kl2.lt
        go_wp2_with fail
        refine (HE2.out _ hbz).mono ?_
        rintro e w15 ⟨rfl, hbx⟩
        have hbq := below_chain hb (below_chain hbz hbx)
        clear hbx hbz cl ll
        go_wp2_with fail
        go_roundw
        case rel => exact ⟨k + 1, by omega, by go_num, by rw [HT2.out], hbq⟩
        case measure => simp [intOf]; omega
      · obtain rfl : k = P.length := by omega
        have q2 : ¬ ((P.length : Int) < (P.length : Int)) := by omega
        rw [HSN.out]
        go_wp2
        go_ret
        exact ⟨rfl, below_chain hb0 hb⟩
end Go.Proofs.YtefnagiffllhbaaGreat

/- MaskPolynomialsProof -/
namespace Go.Proofs.YtefnagiffllhbaaGreat.maskPolynomials
open Go.ChangeShapes Go.WideShapes Go.ChangeAt Go.RowKit
open Go.ChangeMaps (open_string shut_string)
set_option linter.unusedVariables false

theorem own : ownKnob Tryz.prog.godebug = none := by kernel_rfl
theorem laidOut : laidOutB Tryz.prog = true := by kernel_rfl

set_option maxRecDepth 100000 in
theorem lifted (os : Os) (started : os.Started) (H : Type) (enc : TypeId × Value → H) :
    ReturnsInHanded {} Tryz.checked os 4 .any (Rows.maskPolynomialsSpec.pre6 enc Tryz.prog Tryz.f4 Rows.maskPolynomialsRow.domain false) (Rows.maskPolynomialsSpec.post enc Tryz.prog Tryz.f4 false true false false) := by
  refine returnsInHanded_of_change (C := Tryz.checked) own started (by kernel_rfl) Tryz.func4
    (ChangeSpec.witness6 (enc := enc) (C := Tryz.checked) false ⟨#[], #[.agg #[.int .u64 0, .int .i64 0, .int .i64 0, .slice none 0 0, .int .i64 0, .int .i64 0, .int .i64 0, .slice none 0 0], .int .u64 0], []⟩ 12 (by kernel_rfl) (by kernel_rfl) (by kernel_rfl) (by kernel_rfl)) ?_
  intro W base args ds gs before hval0 hW hcnd _
  have hval : ∀ (j : Nat) t v, Tryz.f4.params[j]? = some t → args[j]? = some v → Value.okWide Tryz.prog W .any base t v := hval0
  have hW' := hW
  obtain ⟨p, q, hA0, hV, rfl, hfz, hnd⟩ := hW
  have hA : DataW.TrodAll enc Tryz.prog W 0 (fun _ => true) true Tryz.f4.params.toList args.toList ds p := hA0
  rw [Tryz.params4] at hA hval
  obtain ⟨v0, vs0, d0, ds0, p0, q0, hargs, rfl, rfl, h0, r0⟩ := trodAll_cons hA
  obtain ⟨v1, vs1, d1, ds1, p1, q1, rfl, rfl, rfl, h1, r1⟩ := trodAll_cons r0
  obtain ⟨rfl, rfl, rfl⟩ := trodAll_nil r1
  obtain rfl : args = #[v0, v1] := by cases args; simp_all
  obtain ⟨rfl, rfl⟩ := trodVars_none hV
  have lt0 : ∀ x ∈ p0, x.block < W.heap.size := by obtain ⟨m, hm⟩ := h0; exact DataW.trod_lt m _ _ _ hm
  have k0 := h0
  have lt1 : ∀ x ∈ p1, x.block < W.heap.size := by obtain ⟨m, hm⟩ := h1; exact DataW.trod_lt m _ _ _ hm
  have k1 := h1
  obtain ⟨cs0, rfl, z0⟩ := okWide_struct Tryz.underlying30 (hval 0 30 v0 rfl rfl)
  obtain ⟨a1, rfl, rfl, rfl, w1⟩ := open_int Tryz.underlying22 (hval 1 22 _ rfl rfl) h1
  clear hA0 hval0
  refine (maskPolynomials_walk W cs0 (Fits.of_trod k0) a1 w1).mono fun e W' ⟨he, bel⟩ => ?_
  subst he
  exact ⟨_, rfl, _, _, _, [], _, [], hW', trodAll_mk1 (shut_bool Tryz.underlying4 _), (trodAll_cons_mk (Below.trod laidOut (by kernel_rfl) (of_decide_eq_true (by kernel_rfl)) k0 bel lt0) (trodAll_cons_mk (Below.trod laidOut (by kernel_rfl) (of_decide_eq_true (by kernel_rfl)) k1 bel lt1) trodAll_mk0)), rfl, bel.frame _, fun h => by cases h⟩

theorem over : Rows.maskPolynomialsRow.holds Tryz.pinned (OpenSpec.ofChange Rows.maskPolynomialsSpec) :=
  OpenClaim.holds_of_wide 4 Tryz.f4 rfl rfl rfl rfl rfl rfl rfl ⟨rfl, rfl, rfl, rfl, rfl⟩ rfl rfl rfl rfl rfl (by kernel_rfl) Tryz.func4 (by kernel_rfl)
    (of_decide_eq_true (by kernel_rfl)) (by unfold Func.isWrapper; first | (rw [if_pos (by decide +kernel)]; kernel_rfl) | (rw [if_neg (by decide +kernel)]; exact ⟨rfl, rfl⟩))
    (fun os started H enc _ => lifted os started H enc)

theorem proved : Rows.MaskPolynomialsSaid := over
#print axioms proved
end Go.Proofs.YtefnagiffllhbaaGreat.maskPolynomials
