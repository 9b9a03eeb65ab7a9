/-
  MaskInverse, for every input: the law returns true and leaves its arguments as they were. No condition.
-/
import Derived.Test.YtefnagiffllhbaaJN24
import Derived.Test.YtefnagiffllhbaaJNPm
import Derived.Test.YtefnagiffllhbaaJN17
import Derived.Test.YtefnagiffllhbaaRows
import Derived.Test.YtefnagiffllhbaaJN1

/- MaskIW -/
namespace Go.Proofs.Ytefnagiffllhbaa
open Go.RowKit

theorem masksR_len {L : LayR} {msg vals : List Nat} {pos : List Int} (h : pos.length = L.queries) : (masksR L msg pos vals).length = L.queries := by
  have h1 := lagR_len L.p (mXs L pos) (mYs L msg pos vals) _ (Nat.le_refl _)
  rw [mXs_len] at h1
  unfold masksR
  rw [padP_len]
  unfold lagL
  rw [mXs_len]
  omega
theorem range_self {l : List Nat} {n : Nat} (h : l.length = n) : (List.range n).map (fun i => l.getD i 0) = l := list_ext0 (by simp [h]) fun i hi => by
  rw [List.length_map, List.length_range] at hi
  rw [range_get, if_pos hi]
theorem rowsP_lt {L : LayR} {s n i : Nat} (hp : 0 < L.p) (h : i < (rowsP L s n).length) : ∀ x ∈ (rowsP L s n)[i], x < L.p := fun x hx => by
  simp only [rowsP, List.getElem_map, vecP] at hx
  obtain ⟨k, -, rfl⟩ := List.mem_map.1 hx
  exact Nat.mod_lt _ hp
theorem fld_rows' {w : World} {x0 x1 x2 x3 x4 : Value} : (Instr.field 39 (.agg #[x0, x1, x2, x3, x4]) 0).run Try.prog w = .ok x0 w := by
  simp [Instr.field, run_underlying Try.underlying39, asAgg, part, Result.andThen]

set_option maxRecDepth 100000 in
set_option maxHeartbeats 4000000 in
theorem maskInverse_walk (W : World) (cs0 : Array Value) (f0 : Fits Try.prog W 30 (Value.agg cs0).cells.toList) (cs1 : Array Value) (f1 : Fits Try.prog W 52 (Value.agg cs1).cells.toList) (n2 : Int) (f2 : (Lit.int .u64 n2).wf = true) :
    Calls Try.prog 5 #[.agg cs0, .agg cs1, .int .u64 n2] W fun e W' => e = .returned (.bool true) ∧ Below W.heap.size W W' := by
  obtain ⟨p, pub, vars, A, B, n, c, m, d, rows, ws, bl, bw, qs, rfl, hin⟩ := open_case24 f0
  obtain ⟨x, Ap, Av, np, cp, nv, cv, pos, vals, rfl, hxlt, hpos, hvals⟩ := open_op f1
  obtain ⟨s, rfl, hslt⟩ := wf_n64 f2
  clear f0 f1 f2
  have HF := Lib.hid (fun L w hL => mFromSeed_any L s w hL hslt)
  have HR := Lib.hid (fun w' (hb : Below W.heap.size W w') => right25_any p pub vars A B n c m d rows ws bl bw qs w' (kept_RSl kept_RRow _ _ _ _ hb hin.rows) (kept_RWd _ _ _ _ hb hin.ws) hin.p)
  have HM0 := Lib.hid (fun y0 y1 y2 y3 y4 y5 y6 y7 y8 y9 y10 w => messages_no y0 y1 y2 y3 y4 y5 y6 y7 y8 y9 y10 p pub vars A B n c m d bl bw qs w)
  have HM1 := Lib.hid (fun L pu w' (hb : Below W.heap.size W w') hL h1 h2 => messages_any L pu vars A B n c m d rows ws bl bw qs w' hL (kept_RSl kept_RRow _ _ _ _ hb hin.rows) (kept_RWd _ _ _ _ hb hin.ws) h1 h2)
  clear hin
  have HRI := Lib.hid (fun w' (hb : Below W.heap.size W w') => kept_RInts _ _ _ _ hb hpos)
  have hpl : pos.length = np := by obtain ⟨A', n', c', he, hln, -⟩ := hpos; simp at he; obtain ⟨-, rfl, -⟩ := he; exact hln
  have hpr : -9223372036854775808 ≤ (np : Int) ∧ (np : Int) ≤ 9223372036854775807 := by obtain ⟨A', n', c', he, hln, hnc, hcx, -⟩ := hpos; simp at he; obtain ⟨-, rfl, -⟩ := he; have := lw_max hnc hcx; omega
  clear hpos hvals hpl
  unfold caseCs at *
  obtain ⟨kc, ko, hb0, -⟩ := boxes2 W 30 52 #[.int .u64 (p : Int), .int .i64 pub, .int .i64 vars, .slice A n c, .int .i64 bl, .int .i64 bw, .int .i64 qs, .slice B m d] #[.int .u16 (x : Int), .slice Ap np cp, .slice Av nv cv]
  go_enter Try.func5, Try.ntmps5
  go_wp2_with fail
  generalize (W.alloc _).alloc _ = w0 at hb0 kc ko ⊢
  refine (HR.out _ hb0).mono ?_
  rintro e w1 ⟨⟨hpost, htt⟩, hb1⟩
  obtain ⟨y0, y1, y2, y3, y4, y5, y6, y7, y8, y9, y10, b, rfl, hL⟩ := hpost
  replace kc := kc.below hb1 kc.lt
  replace ko := ko.below hb1 ko.lt
  replace hb0 := below_chain hb0 hb1
  clear hb1 HR
  go_upto_region 2 with fail
  have kl := Blk.new w1 33 #[.int .u64 y0, .int .i64 y1, .int .i64 y2, .int .i64 y3, .int .i64 y4, .int .i64 y5, .int .i64 y6, .int .i64 y7, .int .i64 y8, .int .i64 y9, .int .i64 y10]
  have hal := (Below.refl w1.heap.size w1).alloc (Nat.le_refl _) (.cells #[.int .u64 y0, .int .i64 y1, .int .i64 y2, .int .i64 y3, .int .i64 y4, .int .i64 y5, .int .i64 y6, .int .i64 y7, .int .i64 y8, .int .i64 y9, .int .i64 y10] 33)
  replace kc := kc.below hal kc.lt
  replace ko := ko.below hal ko.lt
  replace hb0 := below_chain hb0 hal
  clear hal
  generalize w1.alloc _ = w2 at kl kc ko hb0 ⊢
  generalize w1.heap.size = gl at kl ⊢
  have HL := Lib.hid hL
  have HTT := Lib.hid (htt (.agg #[.int .u64 y0, .int .i64 y1, .int .i64 y2, .int .i64 y3, .int .i64 y4, .int .i64 y5, .int .i64 y6, .int .i64 y7, .int .i64 y8, .int .i64 y9, .int .i64 y10]))
  clear hL htt
  cases b
  · have cl := kl.cell
    have ll := kl.lt
    have cc := kc.cell
    have lc := kc.lt
    go_wp2_with fail
    refine (HM0.out _ _ _ _ _ _ _ _ _ _ _ _).mono ?_
    rintro e w3 ⟨rfl, hbx⟩
    replace hb0 := below_chain hb0 hbx
    clear hbx
    go_wp2_with fail
    refine (awake_any _).mono ?_
    rintro e w4 ⟨rfl, hbx⟩
    replace hb0 := below_chain hb0 hbx
    clear hbx
    go_wp2_with fail
    refine (awake_any _).mono ?_
    rintro e w5 ⟨rfl, hbx⟩
    go_wp2
    go_ret
    exact ⟨rfl, below_chain hb0 hbx⟩
  · obtain ⟨L, hL, hfor, hcs⟩ := HL.out rfl
    obtain ⟨ht, ha⟩ := HTT.out rfl
    obtain ⟨pu, rfl, h1, h2, h3⟩ := case_facts ht ha
    have hpL : p = L.p := hfor.p.symm
    subst hpL
    clear HL HTT HM0 hfor
    rw [hcs] at kl
    clear hcs ht ha
    obtain ⟨hp1, hp2⟩ := okP_lt hL.p
    have HM := Lib.hid (fun w' hb => HM1.out L pu w' hb hL h1 h2)
    have HMR := Lib.hid (fun r (hr : r ∈ msgsR L rows ws pu) => msgsR_row hr)
    have hT4 : L.a + L.b + L.b + L.b ≤ 400000 := by have := hL.a; have := hL.b; omega
    have HTL := Lib.hid (msgsR_len L rows ws pu)
    have HRL := Lib.hid (rowsP_len L s (L.a + L.b + L.b + L.b))
    have HRR := Lib.hid (fun i h => rowsP_row (L := L) (s := s) (n := L.a + L.b + L.b + L.b) (i := i) h)
    have HRT := Lib.hid (fun i h => rowsP_lt (L := L) (s := s) (n := L.a + L.b + L.b + L.b) (i := i) (by omega) h)
    obtain ⟨M, hM⟩ : ∃ M, M = msgsR L rows ws pu := ⟨_, rfl⟩
    rw [← hM] at HM HMR HTL
    have HFL := Lib.hid (fun w => HF.out L w hL)
    have HO := Lib.hid (fun w => own_any L w)
    have HPo := Lib.hid (fun A n c w hl => rPositions_any L A n c pos w hl)
    have HPM := Lib.hid (fun A B C n c m d k e msg vals pos w h1 h2 h3 h4 => pMasks_any L A B C n c m d k e msg vals pos w hL h1 h2 h3 h4)
    have HRow := Lib.hid (fun A B n c m d msg masks w hl hk hn hm => mRow_any L A B n c m d msg masks w hL hl hk hn hm)
    have HPt := Lib.hid (fun w => rPoints_any L w hL)
    have HEv := Lib.hid (fun A n c x l w hl => rEval_any L.p A n c x l w hL.p hl)
    have HBK := Lib.hid (fun (msg masks vals : List Nat) (hm : msg.length = L.block) (hk : masks.length = L.queries) (hkp : ∀ x ∈ masks, x < L.p) (h : posOk L.n L.queries pos = true) hv => masks_back hL hm hk hkp h (vals := vals) hv)
    have HLT := Lib.hid (fun msg masks k => mrowP_lt (L := L) (by omega) msg masks k)
    have HEL := Lib.hid (fun l x => Nat.lt_trans (evalP_lt (p := L.p) (by omega) l x) hp2)
    have HEP := Lib.hid (fun l x => evalP_lt (p := L.p) (by omega) l x)
    have hq2 := hL.q2
    have hb2 := hL.b2
    obtain ⟨T, hT⟩ : ∃ T, T = L.a + L.b + L.b + L.b := ⟨_, rfl⟩
    rw [← hT] at hT4 HTL HRL HRR HRT HFL
    clear hM HM1 HF hT hL h1 h2 h3 hp1
    unfold layCs at *
    have cl := kl.cell
    have ll := kl.lt
    have cc := kc.cell
    have lc := kc.lt
    go_wp2_with fail
    refine (HM.out _ hb0).mono ?_
    rintro e w3 ⟨vM, rfl, hM, hbx⟩
    replace kl := kl.below hbx kl.lt
    replace ko := ko.below hbx ko.lt
    replace hb0 := below_chain hb0 hbx
    clear hbx cl ll cc lc kc
    obtain ⟨AM, nM, cM, rfl⟩ := RSl.slc hM
    obtain ⟨hMn, -, -, hMd⟩ := rows_at hM
    have hMT : nM = T := by rw [← hMn]; exact HTL.out
    subst hMT
    clear hM
    go_wp2_with fail
    refine (awake_any _).mono ?_
    rintro e w4 ⟨rfl, hbx⟩
    replace kl := kl.below hbx kl.lt
    replace ko := ko.below hbx ko.lt
    replace hb0 := below_chain hb0 hbx
    replace hMd := hMd.below kept_RWd hbx
    clear hbx
    rcases Nat.eq_zero_or_pos nM with h0 | h0
    · subst h0
      go_wp2_with fail
      refine (awake_any _).mono ?_
      rintro e w5 ⟨rfl, hbx⟩
      go_wp2
      go_ret
      exact ⟨rfl, below_chain hb0 hbx⟩
    have d1 : ((nM : Int) == 0) = false := by rw [beq_eq_false_iff_ne]; omega
    have d2 : ¬ ((nM : Int) = 0) := by omega
    have d3 : ¬ (nM = 0) := by omega
    have co := ko.cell
    have lo := ko.lt
    have HPL := Lib.hid hMn
    have hri := HRI.out _ hb0
    have cl := kl.cell
    have ll := kl.lt
    obtain ⟨po, hpo⟩ : ∃ po, po = posOk L.n L.queries pos := ⟨_, rfl⟩
    have HPo1 : Hid (∀ w : World, RInts w [.slice Ap np cp] pos → Calls Try.prog 15 #[.agg #[.int .u64 (L.p : Int), .int .i64 (L.block : Int), .int .i64 (L.queries : Int), .int .i64 (L.k : Int), .int .i64 (L.n : Int), .int .i64 (L.secret : Int), .int .i64 (L.rows : Int), .int .i64 (L.a : Int), .int .i64 (L.b : Int), .int .i64 (L.b : Int), .int .i64 (L.b : Int)], .slice Ap np cp] w fun e w' => e = .returned (.bool po) ∧ Below w.heap.size w w') := Lib.hid (fun w hl => by rw [hpo]; exact HPo.out Ap np cp w hl)
    cases po with
    | false =>
      clear HFL HRow HPt HEv HBK HLT HEL HEP HPM hpo HPo
      go_wp2_with fail
      refine (HPo1.out _ hri).mono ?_
      rintro e w5 ⟨rfl, hbx⟩
      replace hb0 := below_chain hb0 hbx
      clear hbx
      go_wp2_with fail
      refine (awake_any _).mono ?_
      rintro e w6 ⟨rfl, hbx⟩
      go_wp2
      go_ret
      exact ⟨rfl, below_chain hb0 hbx⟩
    | true =>
      have HPO := Lib.hid hpo.symm
      have HQQ := Lib.hid (posOk_len hpo.symm)
      have HPA := Lib.hid (fun i hi => posOk_at (N := L.n) (Q := L.queries) (l := pos) hpo.symm (i := i) hi)
      clear hpo
      go_wp2_with fail
      refine (HPo1.out _ hri).mono ?_
      rintro e w5 ⟨rfl, hbx⟩
      replace kl := kl.below hbx kl.lt
      replace ko := ko.below hbx ko.lt
      replace hb0 := below_chain hb0 hbx
      replace hMd := hMd.below kept_RWd hbx
      clear hbx hri cl ll co lo HPo HPo1
      obtain ⟨i, hi⟩ : ∃ i, i = x % nM := ⟨_, rfl⟩
      have hin : i < nM := by rw [hi]; exact Nat.mod_lt _ h0
      have e1 : (x : Int) % (nM : Int) = (i : Int) := by rw [hi]; rfl
      have e2 : (x : Int).tmod (nM : Int) = (i : Int) := by rw [hi]; rfl
      have e3 : IntKind.i64.wrap (x : Int) = (x : Int) := wr_i64 _ (by omega) (by omega)
      have e4 : IntKind.i64.wrap (i : Int) = (i : Int) := wr_i64 _ (by omega) (by omega)
      have e5 : (0 : Int) ≤ (i : Int) := by omega
      have e6 : (i : Int) < (nM : Int) := by omega
      clear hi
      have cl := kl.cell
      have ll := kl.lt
      have co := ko.cell
      have lo := ko.lt
      go_wp2_with fail
      refine (HO.out _).mono ?_
      rintro e w6 ⟨rfl, hbx⟩
      replace kl := kl.below hbx kl.lt
      replace ko := ko.below hbx ko.lt
      replace hb0 := below_chain hb0 hbx
      replace hMd := hMd.below kept_RWd hbx
      clear hbx cl ll co lo
      go_wp2_with fail
      refine (HFL.out _).mono ?_
      rintro e w7 ⟨u0, u1, u2, u3, u4, rfl, r0, -, -, -, -, hbx⟩
      replace kl := kl.below hbx kl.lt
      replace ko := ko.below hbx ko.lt
      replace hb0 := below_chain hb0 hbx
      replace hMd := hMd.below kept_RWd hbx
      clear hbx HFL
      obtain ⟨B0, m0, d0, rfl⟩ := RSl.slc r0
      obtain ⟨hRn, -, -, hRd⟩ := rows_at r0
      have hRT : m0 = nM := by rw [← hRn]; exact HRL.out
      subst hRT
      have hfld := fun (w : World) (x0 x1 x2 x3 x4 : Value) => fld_rows' (w := w) (x0 := x0) (x1 := x1) (x2 := x2) (x3 := x3) (x4 := x4)
      obtain ⟨bm, qm, A1, n1, c1, rfl, hbm, hcm, hm⟩ := rows_get hMd (show i < M.length by omega)
      obtain ⟨br, qr, A2, n2, c2, rfl, hbr, hcr, hk⟩ := rows_get hRd (show i < _ by rw [HRL.out]; exact hin)
      have z1 : n1 = L.block := by rw [(lw_at hm).1]; exact HMR.out _ (List.getElem_mem _)
      have z2 : n2 = L.queries := by rw [(lw_at hk).1]; exact HRR.out i _
      have z6 := HRT.out i (by rw [HRL.out]; exact hin)
      obtain ⟨mi, hmi⟩ : ∃ mi, mi = M[i]'(by omega) := ⟨_, rfl⟩
      obtain ⟨mk, hmk⟩ : ∃ mk, mk = (rowsP L s m0)[i]'(by rw [HRL.out]; exact hin) := ⟨_, rfl⟩
      rw [← hmi] at hm
      rw [← hmk] at hk z6
      have z4 := (lw_at hm).1
      have z5 := (lw_at hk).1
      have ltm := Lib.hid (lw_at hm).2.2.2.1
      have ltk := Lib.hid (lw_at hk).2.2.2.1
      have gn1 : n1 ≤ 256 := by omega
      have gn2 : n2 ≤ 64 := by omega
      have HBK1 := Lib.hid (fun vals => HBK.out mi mk vals (by omega) (by omega) z6 HPO.out)
      have HRow1 := Lib.hid (fun A c B d w hl hk => HRow.out A B n1 c n2 d mi mk w hl hk z1 (by omega))
      obtain ⟨RW, hRW⟩ : ∃ RW, RW = mrowL L mi mk := ⟨_, rfl⟩
      have HRLW := Lib.hid (show (List.range (L.block + n2)).map (mrowP L mi mk) = RW by rw [hRW, z5]; rfl)
      rw [← hRW] at HBK1
      have HLT1 := Lib.hid (show ∀ k, mrowP L mi mk k < 18446744073709551616 from fun k => Nat.lt_trans (HLT.out mi mk k) hp2)
      have HZ1 := Lib.hid z1
      have hnp : pos.length = np := by obtain ⟨A', n', c', he, hln, -⟩ := HRI.out _ hb0; simp at he; obtain ⟨-, rfl, -⟩ := he; exact hln
      subst hnp
      have hp64 : pos.length ≤ 64 := by have := HQQ.out; omega
      clear hmi hmk hRW z1 z2 z4 z5 z6 HMR HTL HRL HRR HRT HBK HLT HRow hRn
      go_upto_region 7 with fail
      have cl := kl.cell
      have ll := kl.lt
      refine wpO_begin (Later) [1, 6, 8, 9] [0, 2, 3, 4, 5, 7, 1, 6, 8, 9, 10] (by kernel_rfl) (by kernel_rfl) ?_
      refine wpO_startK (later_moves) ?_
      intro Wc HWc hacc
      have hbW : Below w7.heap.size w7 Wc := by rw [HWc.out]; exact (Below.refl _ _).drew
      replace hm := kept_RWd _ _ _ _ hbW hm
      replace hk := kept_RWd _ _ _ _ hbW hk
      repeat (first | (refine wpO_skip (later_moves) rfl rfl (fun _ _ _ h => h) ?_ ; simp only [Act.put, List.setIfInBounds_toArray, List.set_cons_zero, List.set_cons_succ]) | (refine wpO_light (v := ?_) (later_moves) rfl rfl (fun _ _ _ h => h) ?_ ?_ ; rotate_left ; (· (intro w' hR ; (first | have hcells := later_cellsD ((later_moves).trans _ _ _ hacc hR) | skip) ; go_simp ; try with_reducible rfl)) ; simp only [Act.put, List.setIfInBounds_toArray, List.set_cons_zero, List.set_cons_succ]))
      refine wpO_call (later_moves) rfl rfl rfl (fun _ => by go_simp <;> rfl) ((HO.out _).mono ?_)
      rintro e w8 ⟨rfl, hb8⟩
      refine ⟨_, rfl, hb8, ?_⟩
      replace hacc := (later_moves).trans _ _ _ hacc (hb8)
      simp only [Act.put, List.setIfInBounds_toArray, List.set_cons_zero, List.set_cons_succ]
      replace hm := kept_RWd _ _ _ _ hb8 hm
      replace hk := kept_RWd _ _ _ _ hb8 hk
      repeat (first | (refine wpO_skip (later_moves) rfl rfl (fun _ _ _ h => h) ?_ ; simp only [Act.put, List.setIfInBounds_toArray, List.set_cons_zero, List.set_cons_succ]) | (refine wpO_light (v := ?_) (later_moves) rfl rfl (fun _ _ _ h => h) ?_ ?_ ; rotate_left ; (· (intro w' hR ; (first | have hcells := later_cellsD ((later_moves).trans _ _ _ hacc hR) | skip) ; go_simp ; try with_reducible rfl)) ; simp only [Act.put, List.setIfInBounds_toArray, List.set_cons_zero, List.set_cons_succ]))
      refine wpO_call (later_moves) rfl rfl rfl (fun _ => by go_simp <;> rfl) ((cp_any A1 n1 c1 mi _ hm (by omega)).mono ?_)
      rintro e wa ⟨va, rfl, ho, hba⟩
      refine ⟨_, rfl, hba, ?_⟩
      replace hacc := (later_moves).trans _ _ _ hacc (hba)
      simp only [Act.put, List.setIfInBounds_toArray, List.set_cons_zero, List.set_cons_succ]
      obtain ⟨Aa, ca, rfl, -⟩ := own_form ho
      have hcp := lw_own ho ltm.out
      replace hk := kept_RWd _ _ _ _ hba hk
      replace hm := kept_RWd _ _ _ _ hba hm
      clear ho
      repeat (first | (refine wpO_skip (later_moves) rfl rfl (fun _ _ _ h => h) ?_ ; simp only [Act.put, List.setIfInBounds_toArray, List.set_cons_zero, List.set_cons_succ]) | (refine wpO_light (v := ?_) (later_moves) rfl rfl (fun _ _ _ h => h) ?_ ?_ ; rotate_left ; (· (intro w' hR ; (first | have hcells := later_cellsD ((later_moves).trans _ _ _ hacc hR) | skip) ; go_simp ; try with_reducible rfl)) ; simp only [Act.put, List.setIfInBounds_toArray, List.set_cons_zero, List.set_cons_succ]))
      refine wpO_call (later_moves) rfl rfl rfl (fun _ => by go_simp <;> rfl) ((cp_any A2 n2 c2 mk _ hk (by omega)).mono ?_)
      rintro e wb ⟨vb, rfl, ho, hbb⟩
      refine ⟨_, rfl, hbb, ?_⟩
      replace hacc := (later_moves).trans _ _ _ hacc (hbb)
      simp only [Act.put, List.setIfInBounds_toArray, List.set_cons_zero, List.set_cons_succ]
      obtain ⟨Ab, cb, rfl, -⟩ := own_form ho
      have hcq := lw_own ho ltk.out
      replace hcp := kept_RWd _ _ _ _ hbb hcp
      replace hk := kept_RWd _ _ _ _ hbb hk
      replace hm := kept_RWd _ _ _ _ hbb hm
      clear ho
      repeat (first | (refine wpO_skip (later_moves) rfl rfl (fun _ _ _ h => h) ?_ ; simp only [Act.put, List.setIfInBounds_toArray, List.set_cons_zero, List.set_cons_succ]) | (refine wpO_light (v := ?_) (later_moves) rfl rfl (fun _ _ _ h => h) ?_ ?_ ; rotate_left ; (· (intro w' hR ; (first | have hcells := later_cellsD ((later_moves).trans _ _ _ hacc hR) | skip) ; go_simp ; try with_reducible rfl)) ; simp only [Act.put, List.setIfInBounds_toArray, List.set_cons_zero, List.set_cons_succ]))
      refine wpO_call (later_moves) rfl rfl rfl (fun _ => by go_simp <;> rfl) ((HRow1.out _ _ _ _ _ hcp hcq).mono ?_)
      rintro e wc ⟨gr, rfl, -, kr, hbc⟩
      refine ⟨_, rfl, hbc, ?_⟩
      replace hacc := (later_moves).trans _ _ _ hacc (hbc)
      simp only [Act.put, List.setIfInBounds_toArray, List.set_cons_zero, List.set_cons_succ]
      repeat (first | (refine wpO_skip (later_moves) rfl rfl (fun _ _ _ h => h) ?_ ; simp only [Act.put, List.setIfInBounds_toArray, List.set_cons_zero, List.set_cons_succ]) | (refine wpO_light (v := ?_) (later_moves) rfl rfl (fun _ _ _ h => h) ?_ ?_ ; rotate_left ; (· (intro w' hR ; (first | have hcells := later_cellsD ((later_moves).trans _ _ _ hacc hR) | skip) ; go_simp ; try with_reducible rfl)) ; simp only [Act.put, List.setIfInBounds_toArray, List.set_cons_zero, List.set_cons_succ]))
      refine wpO_done ?_
      have hbz := below_chain (below_chain (below_chain (below_chain hbW hb8) hba) hbb) hbc
      replace hm := kept_RWd _ _ _ _ hbc hm
      replace hk := kept_RWd _ _ _ _ hbc hk
      replace kl := kl.below hbz kl.lt
      replace ko := ko.below hbz ko.lt
      replace hb0 := below_chain hb0 hbz
      replace hcm := (hbz.cell (p := ⟨bm, qm + i, none⟩) hbm).trans hcm
      replace hbm := Nat.lt_of_lt_of_le hbm hbz.size
      clear hbW hb8 hba hbb hbc hbz HWc hacc cl ll hcp hcq HRow1 hcr hbr hMd hRd r0
      have hrw := fill_rwd kr (fun k _ => HLT1.out k) (by simp [maxLen]; omega)
      rw [HRLW.out] at hrw
      clear kr
      have cl := kl.cell
      have ll := kl.lt
      go_wp2_with fail
      refine (HPt.out _).mono ?_
      rintro e wd ⟨v1, v2, rfl, -, hpb, hbx⟩
      replace kl := kl.below hbx kl.lt
      replace ko := ko.below hbx ko.lt
      replace hrw := kept_RWd _ _ _ _ hbx hrw
      replace hm := kept_RWd _ _ _ _ hbx hm
      replace hk := kept_RWd _ _ _ _ hbx hk
      replace hb0 := below_chain hb0 hbx
      replace hcm := (hbx.cell (p := ⟨bm, qm + i, none⟩) hbm).trans hcm
      replace hbm := Nat.lt_of_lt_of_le hbm hbx.size
      clear hbx cl ll HPt
      obtain ⟨D, hD⟩ : ∃ D, D = (List.range L.n).map (domR L.p (rowOf L.p).1 L.n) := ⟨_, rfl⟩
      have HDL := Lib.hid (show D.length = L.n by rw [hD, List.length_map, List.length_range])
      have HDG := Lib.hid (show ∀ z, z < L.n → D.getD z 0 = domR L.p (rowOf L.p).1 L.n z from fun z hz => by rw [hD, range_get, if_pos hz])
      rw [← hD] at hpb
      obtain ⟨Ad, cd, rfl⟩ := rwd_form hpb
      have hqr := (lw_at hpb).2.2.2.2
      clear hD hpb
      obtain ⟨fv1, hfv⟩ : ∃ fv1, fv1 = fun k => evalP L.p RW (mxV L pos k) := ⟨_, rfl⟩
      have HFV := Lib.hid (show ∀ k, evalP L.p RW (mxV L pos k) = fv1 k from fun k => by rw [hfv])
      have HFL2 := Lib.hid (show ∀ k, fv1 k < 18446744073709551616 from fun k => by rw [hfv]; exact HEL.out _ _)
      have HFP := Lib.hid (show ∀ k, fv1 k < L.p from fun k => by rw [hfv]; exact HEP.out _ _)
      have HBK2 := Lib.hid (show masksR L mi pos ((List.range pos.length).map fv1) = mk from by rw [hfv]; exact HBK1.out _ rfl)
      clear hfv HBK1 HEL HEP
      have co := ko.cell
      go_wp2_with fail
      go_loopw [15, 76] (fun v y wr => ∃ k : Nat, k ≤ pos.length ∧ y = .int .i64 (k : Int) ∧ wr.ownsRow wd.heap.size 22 1 v k (U64 ((List.range k).map fv1)) ∧ Below wd.heap.size wd wr) (fun _ y _ => pos.length - (intOf y).toNat)
      case atStart => exact ⟨0, Nat.zero_le _, rfl, ⟨rfl, .inl ⟨rfl, rfl⟩⟩, Below.refl _ _⟩
      case round =>
        obtain ⟨k, hk2, rfl, hown, hb⟩ := hrel
        by_cases hlt : k < pos.length
        · have q2 : (k : Int) < (pos.length : Int) := by omega
          have q3 : (0 : Int) ≤ (k : Int) := by omega
          have hbo := below_chain hb0 hb
          obtain ⟨hz0, hz1, -⟩ := HPA.out k hlt
          obtain ⟨z, hz⟩ : ∃ z : Nat, pos.getD k 0 = (z : Int) := ⟨_, (Int.toNat_of_nonneg hz0).symm⟩
          obtain ⟨Ar, nr, cr, her, hlr, -, -, hrr⟩ := HRI.out _ hbo
          simp at her
          obtain ⟨rfl, rfl, rfl⟩ := her
          obtain ⟨b, q, rfl, hbl, hc, -, -⟩ := ri_get hrr hlt
          rw [hz] at hc hz1
          have hzn : z < L.n := by omega
          have hzd : z < D.length := by rw [HDL.out]; exact hzn
          obtain ⟨b2, q2', rfl, hbl2, hc2⟩ := lw_get hqr hzd
          have hc2' := (hb.cell (p := ⟨b2, q2' + z, none⟩) hbl2).trans hc2
          have ez : evalP L.p RW (D.getD z 0) = fv1 k := by rw [← HFV.out k, HDG.out z hzn]; unfold mxV; rw [hz]; rfl
          have HSn := Lib.hid (range_snoc fv1 k)
          obtain ⟨x', hx'⟩ : ∃ x', x' = D.getD z 0 := ⟨_, rfl⟩
          obtain ⟨v, hv⟩ : ∃ v, v = fv1 k := ⟨_, rfl⟩
          rw [← hx', ← hv] at ez
          rw [← hx'] at hc2'
          rw [← hv] at HSn
          have HE1 := Lib.hid (fun A n c w hl => by have := HEv.out A n c x' RW w hl; rw [ez] at this; exact this)
          have u1 : (0 : Int) ≤ (z : Int) := by omega
          have u2 : (z : Int) < (D.length : Int) := by omega
          have kl1 := kl.below hb kl.lt
          have cl := kl1.cell
          have ll := kl1.lt
          have ll5 := kl.lt
          have hrw1 := kept_RWd _ _ _ _ hb hrw
          clear hx' hv ez hz hz0 hz1 hzn hzd
          go_upto_region 13 with fail
          refine wpO_begin (From wd.heap.size) [8, 9, 10] [0, 1, 2, 3, 4, 5, 6, 7, 8, 9, 10, 11] (by kernel_rfl) (by kernel_rfl) ?_
          refine wpO_startK (from_moves wd.heap.size) ?_
          intro Wc HWc hacc
          have hbW : Below wr.heap.size wr Wc := by rw [HWc.out]; exact (Below.refl _ _).drew
          replace hown := own_below hown hbW (Nat.le_refl _)
          replace hb := below_chain hb hbW
          replace hrw1 := kept_RWd _ _ _ _ hbW hrw1
          repeat (first | (refine wpO_skip (from_moves wd.heap.size) rfl rfl (fun _ _ _ h => h) ?_ ; simp only [Act.put, List.setIfInBounds_toArray, List.set_cons_zero, List.set_cons_succ]) | (refine wpO_light (v := ?_) (from_moves wd.heap.size) rfl rfl (fun _ _ _ h => h) ?_ ?_ ; rotate_left ; (· (intro w' hR ; (first | have hcells := from_cellsD ((from_moves wd.heap.size).trans _ _ _ hacc hR) | skip) ; go_simp ; try with_reducible rfl)) ; simp only [Act.put, List.setIfInBounds_toArray, List.set_cons_zero, List.set_cons_succ]))
          refine wpO_call (from_moves wd.heap.size) rfl rfl rfl (fun _ => by go_simp <;> rfl) ((HE1.out _ _ _ _ hrw1).mono ?_)
          rintro e we ⟨rfl, hbx⟩
          refine ⟨_, rfl, hbx.mono hb.size, ?_⟩
          replace hacc := (from_moves wd.heap.size).trans _ _ _ hacc (hbx.mono hb.size)
          simp only [Act.put, List.setIfInBounds_toArray, List.set_cons_zero, List.set_cons_succ]
          replace hown := own_below hown hbx (Nat.le_refl _)
          replace hb := below_chain hb hbx
          repeat (first | (refine wpO_skip (from_moves wd.heap.size) rfl rfl (fun _ _ _ h => h) ?_ ; simp only [Act.put, List.setIfInBounds_toArray, List.set_cons_zero, List.set_cons_succ]) | (refine wpO_light (v := ?_) (from_moves wd.heap.size) rfl rfl (fun _ _ _ h => h) ?_ ?_ ; rotate_left ; (· (intro w' hR ; (first | have hcells := from_cellsD ((from_moves wd.heap.size).trans _ _ _ hacc hR) | skip) ; go_simp ; try with_reducible rfl)) ; simp only [Act.put, List.setIfInBounds_toArray, List.set_cons_zero, List.set_cons_succ]))
          refine wpO_heavy (from_moves wd.heap.size) rfl rfl rfl ?_
          go_simp
          have hal := (Below.refl we.heap.size we).alloc (Nat.le_refl _) (.cells #[.int .u64 (v : Int)] 22)
          have hrd1 := rd_one we (.int .u64 (v : Int)) 22
          refine ⟨hal.mono hb.size, ?_⟩
          replace hown := own_below hown hal (Nat.le_refl _)
          replace hb := below_chain hb hal
          try simp only [Act.put, List.setIfInBounds_toArray, List.set_cons_zero, List.set_cons_succ]
          generalize we.alloc _ = wf at hown hrd1 hb ⊢
          generalize we.heap.size = g6 at hrd1 ⊢
          clear hal hacc hbW hbx HWc cl ll kl1 hrw1
          have hacc := (from_moves wd.heap.size).refl wf
          repeat (first | (refine wpO_skip (from_moves wd.heap.size) rfl rfl (fun _ _ _ h => h) ?_ ; simp only [Act.put, List.setIfInBounds_toArray, List.set_cons_zero, List.set_cons_succ]) | (refine wpO_light (v := ?_) (from_moves wd.heap.size) rfl rfl (fun _ _ _ h => h) ?_ ?_ ; rotate_left ; (· (intro w' hR ; (first | have hcells := from_cellsD ((from_moves wd.heap.size).trans _ _ _ hacc hR) | skip) ; go_simp ; try with_reducible rfl)) ; simp only [Act.put, List.setIfInBounds_toArray, List.set_cons_zero, List.set_cons_succ]))
          refine wpO_heavy (from_moves wd.heap.size) rfl rfl rfl ?_
          refine wp_append_rd _ _ rfl el_w rfl hown rfl hrd1 (one_U64 [v]) (by omega) hb.size ?_
          intro v' wz hown' hgrow hblk
          refine ⟨lw_grow hown hgrow hb.size, ?_⟩
          replace hb := hb.trans (lw_grow hown hgrow hb.size)
          replace hown' : wz.ownsRow wd.heap.size 22 1 v' (k + 1) (U64 ((List.range (k + 1)).map fv1)) := lw_app (b := [v]) hown' HSn.out
          clear hgrow hblk hrd1 hacc hown
          have hacc := (from_moves wd.heap.size).refl wz
          try simp only [Act.put, List.setIfInBounds_toArray, List.set_cons_zero, List.set_cons_succ]
          repeat (first | (refine wpO_skip (from_moves wd.heap.size) rfl rfl (fun _ _ _ h => h) ?_ ; simp only [Act.put, List.setIfInBounds_toArray, List.set_cons_zero, List.set_cons_succ]) | (refine wpO_light (v := ?_) (from_moves wd.heap.size) rfl rfl (fun _ _ _ h => h) ?_ ?_ ; rotate_left ; (· (intro w' hR ; (first | have hcells := from_cellsD ((from_moves wd.heap.size).trans _ _ _ hacc hR) | skip) ; go_simp ; try with_reducible rfl)) ; simp only [Act.put, List.setIfInBounds_toArray, List.set_cons_zero, List.set_cons_succ]))
          refine wpO_done ?_
          clear hacc
          go_wp2
          go_roundw
          case rel => exact ⟨k + 1, by omega, by go_num, hown', hb⟩
          case measure => simp [intOf]; omega
        · obtain rfl : k = pos.length := by omega
          have q2 : ¬ ((pos.length : Int) < (pos.length : Int)) := by omega
          obtain ⟨Av, cv, rfl, -⟩ := own_form hown
          have hvals := lw_own hown (fun y hy => by obtain ⟨i, -, rfl⟩ := List.mem_map.1 hy; exact HFL2.out i)
          have HMK : Hid (masksOk L pos ((List.range pos.length).map fv1) = true) := Lib.hid (by
            unfold masksOk elOk
            rw [HPO.out, List.length_map, List.length_range, HQQ.out]
            simp
            intro k _
            exact HFP.out k)
          have HML := Lib.hid (masksR_len (L := L) (msg := mi) (vals := (List.range pos.length).map fv1) HQQ.out)
          rw [HBK2.out] at HML
          generalize (List.range pos.length).map fv1 = VS at *
          have HPM1 : Hid (∀ (A1 : Option Addr) (c1 : Nat) (w : World), RWd w [.slice A1 n1 c1] mi → RInts w [.slice Ap pos.length cp] pos → RWd w [.slice Av pos.length cv] VS → Calls Try.prog 20 #[.agg #[.int .u64 (L.p : Int), .int .i64 (L.block : Int), .int .i64 (L.queries : Int), .int .i64 (L.k : Int), .int .i64 (L.n : Int), .int .i64 (L.secret : Int), .int .i64 (L.rows : Int), .int .i64 (L.a : Int), .int .i64 (L.b : Int), .int .i64 (L.b : Int), .int .i64 (L.b : Int)], .slice A1 n1 c1, .slice Ap pos.length cp, .slice Av pos.length cv] w fun e w' => ∃ g, e = .returned (.tuple #[.slice (some ⟨g, 0, none⟩) L.queries L.queries, .int .i64 0]) ∧ Blk w' g 22 (fillC L.queries fun i => mk.getD i 0) ∧ Below w.heap.size w w') := Lib.hid (fun A1 c1 w h1 h3 h4 => by
            refine (HPM.out A1 Ap Av n1 c1 pos.length cp pos.length cv mi VS pos w h1 HZ1.out h3 h4).mono ?_
            intro e w' h
            rcases h.2 with ⟨h2, -⟩ | ⟨-, g, h2, h3, h4⟩
            · rw [HMK.out] at h2; cases h2
            · exact ⟨g, h2, by rw [HBK2.out] at h4; exact h4, h.1⟩)
          have kl1 := kl.below hb kl.lt
          have ko1 := ko.below hb ko.lt
          have cl := kl1.cell
          have ll := kl1.lt
          have co := ko1.cell
          have lo := ko1.lt
          have hcm1 := (hb.cell (p := ⟨bm, qm + i, none⟩) hbm).trans hcm
          have hbm1 := Nat.lt_of_lt_of_le hbm hb.size
          replace hm := kept_RWd _ _ _ _ hb hm
          replace hk := kept_RWd _ _ _ _ hb hk
          replace hb0 := below_chain hb0 hb
          have hri := HRI.out _ hb0
          clear hown hb HPM
          go_upto_region 15 with fail
          refine wpO_begin (Later) [1, 6, 10] [0, 2, 3, 4, 5, 7, 8, 9, 1, 6, 10, 11, 12, 13, 14, 15] (by kernel_rfl) (by kernel_rfl) ?_
          refine wpO_startK (later_moves) ?_
          intro Wc HWc hacc
          have hbW : Below wr.heap.size wr Wc := by rw [HWc.out]; exact (Below.refl _ _).drew
          replace hri := kept_RInts _ _ _ _ hbW hri
          replace hm := kept_RWd _ _ _ _ hbW hm
          replace hk := kept_RWd _ _ _ _ hbW hk
          replace hvals := kept_RWd _ _ _ _ hbW hvals
          replace hb0 := below_chain hb0 hbW
          repeat (first | (refine wpO_skip (later_moves) rfl rfl (fun _ _ _ h => h) ?_ ; simp only [Act.put, List.setIfInBounds_toArray, List.set_cons_zero, List.set_cons_succ]) | (refine wpO_light (v := ?_) (later_moves) rfl rfl (fun _ _ _ h => h) ?_ ?_ ; rotate_left ; (· (intro w' hR ; (first | have hcells := later_cellsD ((later_moves).trans _ _ _ hacc hR) | skip) ; go_simp ; try with_reducible rfl)) ; simp only [Act.put, List.setIfInBounds_toArray, List.set_cons_zero, List.set_cons_succ]))
          refine wpO_call (later_moves) rfl rfl rfl (fun _ => by go_simp <;> rfl) ((HO.out _).mono ?_)
          rintro e we ⟨rfl, hbx⟩
          refine ⟨_, rfl, hbx, ?_⟩
          replace hacc := (later_moves).trans _ _ _ hacc (hbx)
          simp only [Act.put, List.setIfInBounds_toArray, List.set_cons_zero, List.set_cons_succ]
          replace hri := kept_RInts _ _ _ _ hbx hri
          replace hm := kept_RWd _ _ _ _ hbx hm
          replace hk := kept_RWd _ _ _ _ hbx hk
          replace hvals := kept_RWd _ _ _ _ hbx hvals
          replace hb0 := below_chain hb0 hbx
          repeat (first | (refine wpO_skip (later_moves) rfl rfl (fun _ _ _ h => h) ?_ ; simp only [Act.put, List.setIfInBounds_toArray, List.set_cons_zero, List.set_cons_succ]) | (refine wpO_light (v := ?_) (later_moves) rfl rfl (fun _ _ _ h => h) ?_ ?_ ; rotate_left ; (· (intro w' hR ; (first | have hcells := later_cellsD ((later_moves).trans _ _ _ hacc hR) | skip) ; go_simp ; try with_reducible rfl)) ; simp only [Act.put, List.setIfInBounds_toArray, List.set_cons_zero, List.set_cons_succ]))
          refine wpO_call (later_moves) rfl rfl rfl (fun _ => by go_simp <;> rfl) ((cp_any A1 n1 c1 mi _ hm (by omega)).mono ?_)
          rintro e wf ⟨va, rfl, ho, hba⟩
          refine ⟨_, rfl, hba, ?_⟩
          replace hacc := (later_moves).trans _ _ _ hacc (hba)
          simp only [Act.put, List.setIfInBounds_toArray, List.set_cons_zero, List.set_cons_succ]
          obtain ⟨Aa, ca, rfl, -⟩ := own_form ho
          have hcp := lw_own ho ltm.out
          replace hri := kept_RInts _ _ _ _ hba hri
          replace hk := kept_RWd _ _ _ _ hba hk
          replace hvals := kept_RWd _ _ _ _ hba hvals
          replace hb0 := below_chain hb0 hba
          clear ho
          repeat (first | (refine wpO_skip (later_moves) rfl rfl (fun _ _ _ h => h) ?_ ; simp only [Act.put, List.setIfInBounds_toArray, List.set_cons_zero, List.set_cons_succ]) | (refine wpO_light (v := ?_) (later_moves) rfl rfl (fun _ _ _ h => h) ?_ ?_ ; rotate_left ; (· (intro w' hR ; (first | have hcells := later_cellsD ((later_moves).trans _ _ _ hacc hR) | skip) ; go_simp ; try with_reducible rfl)) ; simp only [Act.put, List.setIfInBounds_toArray, List.set_cons_zero, List.set_cons_succ]))
          refine wpO_call (later_moves) rfl rfl rfl (fun _ => by go_simp <;> rfl) ((HPM1.out _ _ _ hcp hri hvals).mono ?_)
          rintro e wg ⟨g, rfl, kg, hbb⟩
          refine ⟨_, rfl, hbb, ?_⟩
          replace hacc := (later_moves).trans _ _ _ hacc (hbb)
          simp only [Act.put, List.setIfInBounds_toArray, List.set_cons_zero, List.set_cons_succ]
          replace hk := kept_RWd _ _ _ _ hbb hk
          replace hb0 := below_chain hb0 hbb
          repeat (first | (refine wpO_skip (later_moves) rfl rfl (fun _ _ _ h => h) ?_ ; simp only [Act.put, List.setIfInBounds_toArray, List.set_cons_zero, List.set_cons_succ]) | (refine wpO_light (v := ?_) (later_moves) rfl rfl (fun _ _ _ h => h) ?_ ?_ ; rotate_left ; (· (intro w' hR ; (first | have hcells := later_cellsD ((later_moves).trans _ _ _ hacc hR) | skip) ; go_simp ; try with_reducible rfl)) ; simp only [Act.put, List.setIfInBounds_toArray, List.set_cons_zero, List.set_cons_succ]))
          refine wpO_done ?_
          clear hacc HWc hbW hbx hba hbb cl ll co lo hcm1 hbm1 hri hvals hcp
          have hra := fill_rwd kg (fun i _ => by
            rcases Nat.lt_or_ge i mk.length with h | h
            · exact lw_getD ltk.out h
            · rw [List.getD_eq_getElem?_getD, List.getElem?_eq_none h]; decide) (by simp [maxLen]; omega)
          rw [range_self HML.out] at hra
          have HS := Lib.hid (rSame01_any _ _ _ _ _ _ _ _ _ hra hk)
          rw [decide_eq_true rfl] at HS
          go_wp2_with fail
          refine HS.out.mono ?_
          rintro e wh ⟨rfl, hbx⟩
          go_wp2
          go_ret
          exact ⟨rfl, below_chain hb0 hbx⟩
end Go.Proofs.Ytefnagiffllhbaa

/- MaskInverseProof -/
namespace Go.Proofs.Ytefnagiffllhbaa.maskInverse
open Go.ChangeShapes Go.WideShapes Go.ChangeAt Go.RowKit
open Go.ChangeMaps (open_string shut_string)
set_option linter.unusedVariables false

theorem own : ownKnob Try.prog.godebug = none := by kernel_rfl
theorem laidOut : laidOutB Try.prog = true := by kernel_rfl

set_option maxRecDepth 100000 in
theorem lifted (os : Os) (started : os.Started) (H : Type) (enc : TypeId × Value → H) :
    ReturnsInHanded {} Try.checked os 5 .any (Rows.maskInverseSpec.pre6 enc Try.prog Try.f5 Rows.maskInverseRow.domain false) (Rows.maskInverseSpec.post enc Try.prog Try.f5 false true false false) := by
  refine returnsInHanded_of_change (C := Try.checked) own started (by kernel_rfl) Try.func5
    (ChangeSpec.witness6 (enc := enc) (C := Try.checked) false ⟨#[], #[.agg #[.int .u64 0, .int .i64 0, .int .i64 0, .slice none 0 0, .int .i64 0, .int .i64 0, .int .i64 0, .slice none 0 0], .agg #[.int .u16 0, .slice none 0 0, .slice none 0 0], .int .u64 0], []⟩ 12 (by kernel_rfl) (by kernel_rfl) (by kernel_rfl) (by kernel_rfl)) ?_
  intro W base args ds gs before hval0 hW hcnd _
  have hval : ∀ (j : Nat) t v, Try.f5.params[j]? = some t → args[j]? = some v → Value.okWide Try.prog W .any base t v := hval0
  have hW' := hW
  obtain ⟨p, q, hA0, hV, rfl, hfz, hnd⟩ := hW
  have hA : DataW.TrodAll enc Try.prog W 0 (fun _ => true) true Try.f5.params.toList args.toList ds p := hA0
  rw [Try.params5] at hA hval
  obtain ⟨v0, vs0, d0, ds0, p0, q0, hargs, rfl, rfl, h0, r0⟩ := trodAll_cons hA
  obtain ⟨v1, vs1, d1, ds1, p1, q1, rfl, rfl, rfl, h1, r1⟩ := trodAll_cons r0
  obtain ⟨v2, vs2, d2, ds2, p2, q2, rfl, rfl, rfl, h2, r2⟩ := trodAll_cons r1
  obtain ⟨rfl, rfl, rfl⟩ := trodAll_nil r2
  obtain rfl : args = #[v0, v1, v2] := by cases args; simp_all
  obtain ⟨rfl, rfl⟩ := trodVars_none hV
  have lt0 : ∀ x ∈ p0, x.block < W.heap.size := by obtain ⟨m, hm⟩ := h0; exact DataW.trod_lt m _ _ _ hm
  have k0 := h0
  have lt1 : ∀ x ∈ p1, x.block < W.heap.size := by obtain ⟨m, hm⟩ := h1; exact DataW.trod_lt m _ _ _ hm
  have k1 := h1
  have lt2 : ∀ x ∈ p2, x.block < W.heap.size := by obtain ⟨m, hm⟩ := h2; exact DataW.trod_lt m _ _ _ hm
  have k2 := h2
  obtain ⟨cs0, rfl, z0⟩ := okWide_struct Try.underlying30 (hval 0 30 v0 rfl rfl)
  obtain ⟨cs1, rfl, z1⟩ := okWide_struct Try.underlying52 (hval 1 52 v1 rfl rfl)
  obtain ⟨a2, rfl, rfl, rfl, w2⟩ := open_int Try.underlying22 (hval 2 22 _ rfl rfl) h2
  clear hA0 hval0
  refine (maskInverse_walk W cs0 (Fits.of_trod k0) cs1 (Fits.of_trod k1) a2 w2).mono fun e W' ⟨he, bel⟩ => ?_
  subst he
  exact ⟨_, rfl, _, _, _, [], _, [], hW', trodAll_mk1 (shut_bool Try.underlying4 _), (trodAll_cons_mk (Below.trod laidOut (by kernel_rfl) (of_decide_eq_true (by kernel_rfl)) k0 bel lt0) (trodAll_cons_mk (Below.trod laidOut (by kernel_rfl) (of_decide_eq_true (by kernel_rfl)) k1 bel lt1) (trodAll_cons_mk (Below.trod laidOut (by kernel_rfl) (of_decide_eq_true (by kernel_rfl)) k2 bel lt2) trodAll_mk0))), rfl, bel.frame _, fun h => by cases h⟩

theorem over : Rows.maskInverseRow.holds Try.pinned (OpenSpec.ofChange Rows.maskInverseSpec) :=
  OpenClaim.holds_of_wide 5 Try.f5 rfl rfl rfl rfl rfl rfl rfl ⟨rfl, rfl, rfl, rfl, rfl⟩ rfl rfl rfl rfl rfl (by kernel_rfl) Try.func5 (by kernel_rfl)
    (of_decide_eq_true (by kernel_rfl)) (by unfold Func.isWrapper; first | (rw [if_pos (by decide +kernel)]; kernel_rfl) | (rw [if_neg (by decide +kernel)]; exact ⟨rfl, rfl⟩))
    (fun os started H enc _ => lifted os started H enc)

theorem proved : Rows.MaskInverseSaid := over
#print axioms proved
end Go.Proofs.Ytefnagiffllhbaa.maskInverse
