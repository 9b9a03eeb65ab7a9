/-
  MaskRow, for every input: the law returns true and leaves its arguments as they were. No condition.
-/
import Derived.Test.YtefnagiffllhbaaGreatJQ25
import Derived.Test.YtefnagiffllhbaaGreatJQ26
import Derived.Test.YtefnagiffllhbaaGreatJQ19
import Derived.Test.YtefnagiffllhbaaGreatJQ31
import Derived.Test.YtefnagiffllhbaaGreatJQ9
import Derived.Test.YtefnagiffllhbaaGreatRows
import Derived.Test.YtefnagiffllhbaaGreatJQ1

/- MaskRW -/
namespace Go.Proofs.YtefnagiffllhbaaGreat
open Go.RowKit

theorem wf_n64 {n : Int} (h : (Lit.int .u64 n).wf = true) : ∃ m : Nat, n = (m : Int) ∧ m < 18446744073709551616 := by
  have hx : 0 ≤ n ∧ n ≤ 18446744073709551615 := by simpa [Lit.wf, IntKind.min, IntKind.max, IntKind.signed, IntKind.bits] using h
  obtain ⟨m, rfl⟩ := Int.eq_ofNat_of_zero_le hx.1
  exact ⟨m, rfl, by omega⟩
theorem wf_n16 {n : Int} (h : (Lit.int .u16 n).wf = true) : ∃ m : Nat, n = (m : Int) ∧ m < 65536 := by
  have hx : 0 ≤ n ∧ n ≤ 65535 := by simpa [Lit.wf, IntKind.min, IntKind.max, IntKind.signed, IntKind.bits] using h
  obtain ⟨m, rfl⟩ := Int.eq_ofNat_of_zero_le hx.1
  exact ⟨m, rfl, by omega⟩
theorem rowsP_len (L : LayR) (s n : Nat) : (rowsP L s n).length = n := by simp [rowsP]
theorem rowsP_row {L : LayR} {s n i : Nat} (h : i < (rowsP L s n).length) : ((rowsP L s n)[i]).length = L.queries := by simp [rowsP, vecP]

theorem fld_rows {w : World} {x0 x1 x2 x3 x4 : Value} : (Instr.field 41 (.agg #[x0, x1, x2, x3, x4]) 0).run Tryz.prog w = .ok x0 w := by
  simp [Instr.field, run_underlying Tryz.underlying41, asAgg, part, Result.andThen]
set_option maxRecDepth 100000 in
set_option maxHeartbeats 2000000 in
theorem maskRow_walk (W : World) (cs0 : Array Value) (f0 : Fits Tryz.prog W 30 (Value.agg cs0).cells.toList) (n1 : Int) (f1 : (Lit.int .u16 n1).wf = true) (n2 : Int) (f2 : (Lit.int .u64 n2).wf = true) :
    Calls Tryz.prog 3 #[.agg cs0, .int .u16 n1, .int .u64 n2] W fun e W' => e = .returned (.bool true) ∧ Below W.heap.size W W' := by
  obtain ⟨p, pub, vars, A, B, n, c, m, d, rows, ws, bl, bw, qs, rfl, hin⟩ := open_case24 f0
  obtain ⟨x, rfl, hxlt⟩ := wf_n16 f1
  obtain ⟨s, rfl, hslt⟩ := wf_n64 f2
  clear f0 f1 f2
  have HR := Lib.hid (fun w' (hb : Below W.heap.size W w') => right25_any p pub vars A B n c m d rows ws bl bw qs w' (kept_RSl kept_RRow _ _ _ _ hb hin.rows) (kept_RWd _ _ _ _ hb hin.ws) hin.p)
  have HF := Lib.hid (fun L w hL => rFromSeed_any L s w hL hslt)
  have HM0 := Lib.hid (fun y0 y1 y2 y3 y4 y5 y6 y7 y8 y9 y10 w => messages_no y0 y1 y2 y3 y4 y5 y6 y7 y8 y9 y10 p pub vars A B n c m d bl bw qs w)
  have HM1 := Lib.hid (fun L pu w' (hb : Below W.heap.size W w') hL h1 h2 => messages_any L pu vars A B n c m d rows ws bl bw qs w' hL (kept_RSl kept_RRow _ _ _ _ hb hin.rows) (kept_RWd _ _ _ _ hb hin.ws) h1 h2)
  clear hin
  unfold caseCs at *
  have hb0 : Below W.heap.size W (W.alloc (.cells #[.int .u64 (p : Int), .int .i64 pub, .int .i64 vars, .slice A n c, .int .i64 bl, .int .i64 bw, .int .i64 qs, .slice B m d] 30)) := (Below.refl _ W).alloc (Nat.le_refl _) _
  have kc := Blk.new W 30 #[.int .u64 (p : Int), .int .i64 pub, .int .i64 vars, .slice A n c, .int .i64 bl, .int .i64 bw, .int .i64 qs, .slice B m d]
  go_enter Tryz.func3, Tryz.ntmps3
  go_wp2_with fail
  generalize W.alloc _ = w0 at hb0 kc ⊢
  refine (HR.out _ hb0).mono ?_
  rintro e w1 ⟨⟨hpost, htt⟩, hb1⟩
  obtain ⟨y0, y1, y2, y3, y4, y5, y6, y7, y8, y9, y10, b, rfl, hL⟩ := hpost
  replace kc := kc.below hb1 kc.lt
  replace hb0 := below_chain hb0 hb1
  clear hb1 HR
  go_upto_region 2 with fail
  have kl := Blk.new w1 34 #[.int .u64 y0, .int .i64 y1, .int .i64 y2, .int .i64 y3, .int .i64 y4, .int .i64 y5, .int .i64 y6, .int .i64 y7, .int .i64 y8, .int .i64 y9, .int .i64 y10]
  have hal := (Below.refl w1.heap.size w1).alloc (Nat.le_refl _) (.cells #[.int .u64 y0, .int .i64 y1, .int .i64 y2, .int .i64 y3, .int .i64 y4, .int .i64 y5, .int .i64 y6, .int .i64 y7, .int .i64 y8, .int .i64 y9, .int .i64 y10] 34)
  replace kc := kc.below hal kc.lt
  replace hb0 := below_chain hb0 hal
  clear hal
  generalize w1.alloc _ = w2 at kl kc hb0 ⊢
  generalize w1.heap.size = gl at kl ⊢
  have HL := Lib.hid hL
  have HTT := Lib.hid (htt (.agg #[.int .u64 y0, .int .i64 y1, .int .i64 y2, .int .i64 y3, .int .i64 y4, .int .i64 y5, .int .i64 y6, .int .i64 y7, .int .i64 y8, .int .i64 y9, .int .i64 y10]))
  clear hL htt
  cases b
  · have cl := kl.cell
    have ll := kl.lt
    have cc := kc.cell
    have lc := kc.lt
    go_wp2_with fail
    refine (HM0.out _ _ _ _ _ _ _ _ _ _ _ _).mono ?_
    rintro e w3 ⟨rfl, hbx⟩
    replace hb0 := below_chain hb0 hbx
    clear hbx
    go_wp2_with fail
    refine (awake_any _).mono ?_
    rintro e w4 ⟨rfl, hbx⟩
    replace hb0 := below_chain hb0 hbx
    clear hbx
    go_wp2_with fail
    refine (awake_any _).mono ?_
    rintro e w5 ⟨rfl, hbx⟩
    go_wp2
    go_ret
    exact ⟨rfl, below_chain hb0 hbx⟩
  · obtain ⟨L, hL, hfor, hcs⟩ := HL.out rfl
    obtain ⟨ht, ha⟩ := HTT.out rfl
    obtain ⟨pu, rfl, h1, h2, h3⟩ := case_facts ht ha
    have hpL : p = L.p := hfor.p.symm
    subst hpL
    clear HL HTT HM0 hfor
    rw [hcs] at kl
    clear hcs ht ha
    obtain ⟨hp1, hp2⟩ := okP_lt hL.p
    have HM := Lib.hid (fun w' hb => HM1.out L pu w' hb hL h1 h2)
    have HMR := Lib.hid (fun r (hr : r ∈ msgsR L rows ws pu) => msgsR_row hr)
    have HML := Lib.hid (fun r (hr : r ∈ msgsR L rows ws pu) j => msgsR_lt (by omega) h3 hr j)
    have hT4 : L.a + L.b + L.b + L.b ≤ 400000 := by have := hL.a; have := hL.b; omega
    have HTL := Lib.hid (msgsR_len L rows ws pu)
    have HRL := Lib.hid (rowsP_len L s (L.a + L.b + L.b + L.b))
    have HRR := Lib.hid (fun i h => rowsP_row (L := L) (s := s) (n := L.a + L.b + L.b + L.b) (i := i) h)
    obtain ⟨M, hM⟩ : ∃ M, M = msgsR L rows ws pu := ⟨_, rfl⟩
    rw [← hM] at HM HMR HML HTL
    have HFL := Lib.hid (fun w => HF.out L w hL)
    have HO := Lib.hid (fun w => own_any L w)
    have HRow := Lib.hid (fun A B n c m d msg masks w hl hk hn hm => mRow_any L A B n c m d msg masks w hL hl hk hn hm)
    have HR25 := Lib.hid (fun A B n c m d msg masks w hl hk hn hm => rRow25_any L A B n c m d msg masks w hL hl hk hn hm)
    have HPt := Lib.hid (fun w => rPoints_any L w hL)
    have HEv := Lib.hid (fun A n c x l w hl => rEval_any L.p A n c x l w hL.p hl)
    have HEQ := Lib.hid (fun msg masks h1 h2 => rowR_eq (msg := msg) (masks := masks) hL h1 h2)
    have HVL := Lib.hid (fun msg masks hm k hk => row_val hL (msg := msg) (masks := masks) hm (k := k) hk)
    have HLT := Lib.hid (fun msg masks k => mrowP_lt (L := L) (by omega) msg masks k)
    have HK1 := Lib.hid hL.k
    have hq2 := hL.q2
    have hb2 := hL.b2
    have hb1 := hL.b1
    obtain ⟨T, hT⟩ : ∃ T, T = L.a + L.b + L.b + L.b := ⟨_, rfl⟩
    have HLL := Lib.hid hL
    rw [← hT] at hT4 HTL HRL HRR HFL
    clear hM HM1 HF hT hL h1 h2 h3 hp1
    unfold layCs at *
    have cl := kl.cell
    have ll := kl.lt
    have cc := kc.cell
    have lc := kc.lt
    go_wp2_with fail
    refine (HM.out _ hb0).mono ?_
    rintro e w3 ⟨vM, rfl, hM, hbx⟩
    replace kl := kl.below hbx kl.lt
    replace hb0 := below_chain hb0 hbx
    clear hbx cl ll cc lc kc
    obtain ⟨AM, nM, cM, rfl⟩ := RSl.slc hM
    obtain ⟨hMn, -, -, hMd⟩ := rows_at hM
    have hMT : nM = T := by rw [← hMn]; exact HTL.out
    subst hMT
    clear hM
    go_wp2_with fail
    refine (awake_any _).mono ?_
    rintro e w4 ⟨rfl, hbx⟩
    replace kl := kl.below hbx kl.lt
    replace hb0 := below_chain hb0 hbx
    replace hMd := hMd.below kept_RWd hbx
    clear hbx
    rcases Nat.eq_zero_or_pos nM with h0 | h0
    · subst h0
      go_wp2_with fail
      refine (awake_any _).mono ?_
      rintro e w5 ⟨rfl, hbx⟩
      go_wp2
      go_ret
      exact ⟨rfl, below_chain hb0 hbx⟩
    · have d1 : ((nM : Int) == 0) = false := by rw [beq_eq_false_iff_ne]; omega
      have d2 : ¬ ((nM : Int) = 0) := by omega
      have d3 : ¬ (nM = 0) := by omega
      obtain ⟨i, hi⟩ : ∃ i, i = x % nM := ⟨_, rfl⟩
      have hin : i < nM := by rw [hi]; exact Nat.mod_lt _ h0
      have e1 : (x : Int) % (nM : Int) = (i : Int) := by rw [hi]; rfl
      have e2 : (x : Int).tmod (nM : Int) = (i : Int) := by rw [hi]; rfl
      have e3 : IntKind.i64.wrap (x : Int) = (x : Int) := wr_i64 _ (by omega) (by omega)
      have e4 : IntKind.i64.wrap (i : Int) = (i : Int) := wr_i64 _ (by omega) (by omega)
      have e5 : (0 : Int) ≤ (i : Int) := by omega
      have e6 : (i : Int) < (nM : Int) := by omega
      clear hi
      have cl := kl.cell
      have ll := kl.lt
      go_wp2_with fail
      refine (HFL.out _).mono ?_
      rintro e w5 ⟨u0, u1, u2, u3, u4, rfl, r0, -, -, -, -, hbx⟩
      replace kl := kl.below hbx kl.lt
      replace hb0 := below_chain hb0 hbx
      replace hMd := hMd.below kept_RWd hbx
      clear hbx cl ll
      obtain ⟨B0, m0, d0, rfl⟩ := RSl.slc r0
      obtain ⟨hRn, -, -, hRd⟩ := rows_at r0
      have hRT : m0 = nM := by rw [← hRn]; exact HRL.out
      have e7 : (i : Int) < (m0 : Int) := by omega
      obtain ⟨bm, qm, A1, n1, c1, rfl, hbm, hcm, hm⟩ := rows_get hMd (show i < M.length by omega)
      obtain ⟨br, qr, A2, n2, c2, rfl, hbr, hcr, hk⟩ := rows_get hRd (show i < _ by rw [HRL.out]; exact hin)
      have z1 : n1 = L.block := by rw [(lw_at hm).1]; exact HMR.out _ (List.getElem_mem _)
      have z2 : n2 = L.queries := by rw [(lw_at hk).1]; exact HRR.out i _
      have z3 := HML.out _ (List.getElem_mem (show i < M.length by omega))
      obtain ⟨mi, hmi⟩ : ∃ mi, mi = M[i]'(by omega) := ⟨_, rfl⟩
      obtain ⟨mk, hmk⟩ : ∃ mk, mk = (rowsP L s nM)[i]'(by rw [HRL.out]; exact hin) := ⟨_, rfl⟩
      rw [← hmi] at hm z3
      rw [← hmk] at hk
      have z4 := (lw_at hm).1
      have z5 := (lw_at hk).1
      have ltm := Lib.hid (lw_at hm).2.2.2.1
      have ltk := Lib.hid (lw_at hk).2.2.2.1
      obtain ⟨t, ht⟩ : ∃ t, t = L.block + n2 := ⟨_, rfl⟩
      obtain ⟨f, hf⟩ : ∃ f, f = mrowP L mi mk := ⟨_, rfl⟩
      have HRow1 := Lib.hid (fun A c B d w hl hk => by have := HRow.out A B n1 c n2 d mi mk w hl hk z1 (by omega); rw [← ht, ← hf] at this; exact this)
      have hrl : mrowL L mi mk = (List.range t).map f := by rw [ht, hf, z5]; rfl
      have HR1 := Lib.hid (fun A c B d w hl hk => by have := HR25.out A B n1 c n2 d mi mk w hl hk z1 (by omega); rw [HEQ.out mi mk (by omega) (by omega), hrl] at this; exact this)
      have HEV1 := Lib.hid (show ∀ k, k < L.block → evalP L.p ((List.range t).map f) (domR L.p 1 L.block k) = mi.getD k 0 from fun k hk => by rw [← hrl]; exact HVL.out mi mk z3 k hk)
      have HFL1 := Lib.hid (show ∀ k, k < t → f k < 18446744073709551616 from fun k _ => by rw [hf]; exact Nat.lt_trans (HLT.out mi mk k) hp2)
      have q1 : ((t : Int) != (L.k : Int)) = false := by rw [bne_eq_false_iff_eq]; have := HK1.out; omega
      have htl : t ≤ 400 := by omega
      have gn1 : n1 ≤ 256 := by omega
      have gn2 : n2 ≤ 64 := by omega
      have HZ1 := Lib.hid (And.intro z1 z4)
      have HZL := Lib.hid z1
      clear hmi hmk ht hf hrl z1 z2 z3 z4 z5 HRow HR25 HEQ HVL HLT HMR HML HRR HRL HTL hRn hRT hMn r0 hMd hRd HM HFL HK1
      have cl := kl.cell
      have ll := kl.lt
      have hfld := fun (w : World) (x0 x1 x2 x3 x4 : Value) => fld_rows (w := w) (x0 := x0) (x1 := x1) (x2 := x2) (x3 := x3) (x4 := x4)
      go_upto_region 7 with fail
      refine wpL_begin (From w5.heap.size) [0, 2, 3, 4, 5, 7] 5 (by kernel_rfl) (by kernel_rfl) ?_
      refine wpL_startK (from_moves w5.heap.size) ?_
      intro Wc HWc hacc
      repeat (first | (refine wpL_skip (from_moves w5.heap.size) rfl rfl (fun _ _ _ h => h) ?_ ; simp only [Act.put, List.setIfInBounds_toArray, List.set_cons_zero, List.set_cons_succ]) | (refine wpL_light (v := ?_) (from_moves w5.heap.size) rfl rfl (fun _ _ _ h => h) ?_ ?_ ; rotate_left ; (· (intro w' hR ; (first | have hcells := from_cellsD ((from_moves w5.heap.size).trans _ _ _ hacc hR) | skip) ; go_simp ; try with_reducible rfl)) ; simp only [Act.put, List.setIfInBounds_toArray, List.set_cons_zero, List.set_cons_succ]))
      have hbW : Below w5.heap.size w5 Wc := by rw [HWc.out]; exact (Below.refl _ _).drew
      have hNc : w5.heap.size ≤ Wc.heap.size := hbW.size
      refine wpL_own (from_moves w5.heap.size) [⟨1, [], []⟩, ⟨6, [], []⟩, ⟨8, [], []⟩, ⟨9, [1, 6, 8], []⟩] [(1, ValAt (fun _ => .agg #[.int .u64 (L.p : Int), .int .i64 (L.block : Int), .int .i64 (L.queries : Int), .int .i64 (L.k : Int), .int .i64 (L.n : Int), .int .i64 (L.secret : Int), .int .i64 (L.rows : Int), .int .i64 (L.a : Int), .int .i64 (L.b : Int), .int .i64 (L.b : Int), .int .i64 (L.b : Int)]) 1), (6, RowAt 22 n1 (U64 mi) 6), (8, RowAt 22 n2 (U64 mk) 8), (9, BlkAt 22 (fun _ => fillC t f) (mkS t) 9)] [(some 47, 1), (some 52, 6), (some 54, 8), (some 55, 9)] [10] [10] (by kernel_rfl) (by kernel_rfl) (by first | exact Nat.le_refl _ | omega) (fun w1 h1 => h1) ?_ ?_ ?_
      · exact List.forall_mem_cons.2 ⟨stays_val rfl (fun _ _ _ => rfl), List.forall_mem_cons.2 ⟨stays_row rfl, List.forall_mem_cons.2 ⟨stays_row rfl, List.forall_mem_cons.2 ⟨stays_blk rfl (fun _ _ _ => rfl), List.forall_mem_nil _⟩⟩⟩⟩
      · refine List.forall_mem_cons.2 ⟨?_, List.forall_mem_cons.2 ⟨?_, List.forall_mem_cons.2 ⟨?_, List.forall_mem_cons.2 ⟨?_, List.forall_mem_nil _⟩⟩⟩⟩
        · refine task_mk [] rfl (by kernel_rfl) ?_
          intro w1 vs F hb1 hd hdis
          clear hd
          unfold puts
          simp only [List.foldl]
          change Does _ _ _ fun v w' => Near _ w1 w' F [] ∧ ValAt (fun _ => .agg #[.int .u64 (L.p : Int), .int .i64 (L.block : Int), .int .i64 (L.queries : Int), .int .i64 (L.k : Int), .int .i64 (L.n : Int), .int .i64 (L.secret : Int), .int .i64 (L.rows : Int), .int .i64 (L.a : Int), .int .i64 (L.b : Int), .int .i64 (L.b : Int), .int .i64 (L.b : Int)]) 1 (upd vs 1 v) (Grown w1 w' F []) w'
          have hB1 := Nat.le_trans hNc hb1.size
          refine does_call (by go_simp <;> rfl) (HO.out _) ?_
          rintro e w2 ⟨rfl, hb2⟩
          exact ⟨_, rfl, near_below hb2 hB1 _ _, rfl⟩
        · refine task_mk [] rfl (by kernel_rfl) ?_
          intro w1 vs F hb1 hd hdis
          clear hd
          unfold puts
          simp only [List.foldl]
          change Does _ _ _ fun v w' => Near _ w1 w' F [] ∧ RowAt 22 n1 (U64 mi) 6 (upd vs 6 v) (Grown w1 w' F []) w'
          have hB1 := Nat.le_trans hNc hb1.size
          refine does_call (by go_simp <;> rfl) (cp_any A1 n1 c1 mi w1 (kept_RWd _ _ _ _ (hbW.trans hb1) hm) (by omega)) ?_
          rintro e w2 ⟨v, rfl, ho, hb2⟩
          exact ⟨_, rfl, near_below hb2 hB1 _ _, row_of ho⟩
        · refine task_mk [] rfl (by kernel_rfl) ?_
          intro w1 vs F hb1 hd hdis
          clear hd
          unfold puts
          simp only [List.foldl]
          change Does _ _ _ fun v w' => Near _ w1 w' F [] ∧ RowAt 22 n2 (U64 mk) 8 (upd vs 8 v) (Grown w1 w' F []) w'
          have hB1 := Nat.le_trans hNc hb1.size
          refine does_call (by go_simp <;> rfl) (cp_any A2 n2 c2 mk w1 (kept_RWd _ _ _ _ (hbW.trans hb1) hk) (by omega)) ?_
          rintro e w2 ⟨v, rfl, ho, hb2⟩
          exact ⟨_, rfl, near_below hb2 hB1 _ _, row_of ho⟩
        · refine task_mk [(some 47, 1), (some 52, 6), (some 54, 8)] rfl (by kernel_rfl) ?_
          intro w1 vs F hb1 hd hdis
          have d1 : ValAt (fun _ => .agg #[.int .u64 (L.p : Int), .int .i64 (L.block : Int), .int .i64 (L.queries : Int), .int .i64 (L.k : Int), .int .i64 (L.n : Int), .int .i64 (L.secret : Int), .int .i64 (L.rows : Int), .int .i64 (L.a : Int), .int .i64 (L.b : Int), .int .i64 (L.b : Int), .int .i64 (L.b : Int)]) 1 vs (F 1) w1 ∧ ∀ b, F 1 b → b < w1.heap.size ∧ _ ≤ b := hd 1 (by decide)
          have d6 : RowAt 22 n1 (U64 mi) 6 vs (F 6) w1 ∧ ∀ b, F 6 b → b < w1.heap.size ∧ _ ≤ b := hd 6 (by decide)
          have d8 : RowAt 22 n2 (U64 mk) 8 vs (F 8) w1 ∧ ∀ b, F 8 b → b < w1.heap.size ∧ _ ≤ b := hd 8 (by decide)
          clear hd
          unfold puts
          simp only [List.foldl]
          change Does _ _ _ fun v w' => Near _ w1 w' F [] ∧ BlkAt 22 (fun _ => fillC t f) (mkS t) 9 (upd vs 9 v) (Grown w1 w' F []) w'
          have hB1 := Nat.le_trans hNc hb1.size
          have e1 : vs 1 = _ := d1.1
          obtain ⟨A6, c6, e6, o6, -⟩ := d6.1
          obtain ⟨A8, c8, e8, o8, -⟩ := d8.1
          rw [e1, e6, e8]
          refine does_call (by go_simp <;> rfl) (HRow1.out A6 c6 A8 c8 w1 (lw_own o6 ltm.out) (lw_own o8 ltk.out)) ?_
          rintro e w2 ⟨g, rfl, hg, kg, hb2⟩
          exact ⟨_, rfl, near_below hb2 hB1 _ _, blk_of kg hg⟩
      intro wf vs F hbf hf hdis
      have f1 : ValAt (fun _ => .agg #[.int .u64 (L.p : Int), .int .i64 (L.block : Int), .int .i64 (L.queries : Int), .int .i64 (L.k : Int), .int .i64 (L.n : Int), .int .i64 (L.secret : Int), .int .i64 (L.rows : Int), .int .i64 (L.a : Int), .int .i64 (L.b : Int), .int .i64 (L.b : Int), .int .i64 (L.b : Int)]) 1 vs (F 1) wf ∧ ∀ b, F 1 b → b < wf.heap.size ∧ _ ≤ b := hf _ (.head _) (by decide)
      have f6 : RowAt 22 n1 (U64 mi) 6 vs (F 6) wf ∧ ∀ b, F 6 b → b < wf.heap.size ∧ _ ≤ b := hf _ (.tail _ (.head _)) (by decide)
      have f8 : RowAt 22 n2 (U64 mk) 8 vs (F 8) wf ∧ ∀ b, F 8 b → b < wf.heap.size ∧ _ ≤ b := hf _ (.tail _ (.tail _ (.head _))) (by decide)
      have f9 : BlkAt 22 (fun _ => fillC t f) (mkS t) 9 vs (F 9) wf ∧ ∀ b, F 9 b → b < wf.heap.size ∧ _ ≤ b := hf _ (.tail _ (.tail _ (.tail _ (.head _)))) (by decide)
      clear hf
      unfold puts
      simp only [List.foldl]
      have e1 : vs 1 = .agg #[.int .u64 (L.p : Int), .int .i64 (L.block : Int), .int .i64 (L.queries : Int), .int .i64 (L.k : Int), .int .i64 (L.n : Int), .int .i64 (L.secret : Int), .int .i64 (L.rows : Int), .int .i64 (L.a : Int), .int .i64 (L.b : Int), .int .i64 (L.b : Int), .int .i64 (L.b : Int)] := f1.1
      obtain ⟨⟨A6, c6, e6, o6, h6⟩, b6⟩ := f6
      obtain ⟨⟨A8, c8, e8, o8, h8⟩, b8⟩ := f8
      obtain ⟨⟨g9, e9, h9, k9⟩, b9⟩ := f9
      have y9 := (b9 _ h9).2
      simp only [e1, e6, e8, e9]
      clear f1 b9 e1 e6 e8 e9 h9
      try dsimp only [mkS]
      try dsimp only [mkP]
      clear hdis
      repeat (first | (refine wpO_skip (from_moves w5.heap.size) rfl rfl (fun _ _ _ h => h) ?_ ; simp only [Act.put, List.setIfInBounds_toArray, List.set_cons_zero, List.set_cons_succ]) | (refine wpO_light (v := ?_) (from_moves w5.heap.size) rfl rfl (fun _ _ _ h => h) ?_ ?_ ; rotate_left ; (· (intro w' hR ; (first | have hcells := from_cellsD ((from_moves w5.heap.size).trans _ _ _ hacc hR) | skip) ; go_simp ; try with_reducible rfl)) ; simp only [Act.put, List.setIfInBounds_toArray, List.set_cons_zero, List.set_cons_succ]))
      refine wpO_done ?_
      have hb5 := hbW.trans hbf
      replace kl := kl.below hb5 kl.lt
      replace hm := kept_RWd _ _ _ _ hb5 hm
      replace hk := kept_RWd _ _ _ _ hb5 hk
      replace hb0 := below_chain hb0 hb5
      replace hcm := (hb5.cell (p := ⟨bm, qm + i, none⟩) hbm).trans hcm
      replace hbm := Nat.lt_of_lt_of_le hbm hb5.size
      have hra := fill_rwd k9 HFL1.out (by simp [maxLen]; omega)
      clear hbW hbf HWc hacc hNc hb5 k9 y9 hcr hbr cl ll hfld HRow1 HFL1
      try clear o6 h6
      try clear o8 h8
      generalize List.map f (List.range t) = ra at *
      have cl := kl.cell
      have ll := kl.lt
      go_upto_region 8 with fail
      refine wpO_begin (Later) [7, 8] [0, 1, 2, 3, 4, 5, 6, 7, 8, 9, 10, 11, 12, 13, 14, 15, 16] (by kernel_rfl) (by kernel_rfl) ?_
      refine wpO_startK (later_moves) ?_
      intro Wc HWc hacc
      have hbW : Below wf.heap.size wf Wc := by rw [HWc.out]; exact (Below.refl _ _).drew
      replace hb0 := below_chain hb0 hbW
      replace hm := kept_RWd _ _ _ _ hbW hm
      replace hk := kept_RWd _ _ _ _ hbW hk
      replace hra := kept_RWd _ _ _ _ hbW hra
      repeat (first | (refine wpO_skip (later_moves) rfl rfl (fun _ _ _ h => h) ?_ ; simp only [Act.put, List.setIfInBounds_toArray, List.set_cons_zero, List.set_cons_succ]) | (refine wpO_light (v := ?_) (later_moves) rfl rfl (fun _ _ _ h => h) ?_ ?_ ; rotate_left ; (· (intro w' hR ; (first | have hcells := later_cellsD ((later_moves).trans _ _ _ hacc hR) | skip) ; go_simp ; try with_reducible rfl)) ; simp only [Act.put, List.setIfInBounds_toArray, List.set_cons_zero, List.set_cons_succ]))
      refine wpO_call (later_moves) rfl rfl rfl (fun _ => by go_simp <;> rfl) ((HR1.out _ _ _ _ _ hm hk).mono ?_)
      rintro e w7 ⟨v7, rfl, h7, hb7⟩
      refine ⟨_, rfl, hb7, ?_⟩
      replace hacc := (later_moves).trans _ _ _ hacc (hb7)
      simp only [Act.put, List.setIfInBounds_toArray, List.set_cons_zero, List.set_cons_succ]
      replace hb0 := below_chain hb0 hb7
      replace hm := kept_RWd _ _ _ _ hb7 hm
      replace hra := kept_RWd _ _ _ _ hb7 hra
      obtain ⟨A7, c7, rfl⟩ := rwd_form h7
      have HS := Lib.hid (by have := rSame01_any _ _ _ _ _ _ _ _ _ hra h7; rw [decide_eq_true rfl] at this; exact this)
      repeat (first | (refine wpO_skip (later_moves) rfl rfl (fun _ _ _ h => h) ?_ ; simp only [Act.put, List.setIfInBounds_toArray, List.set_cons_zero, List.set_cons_succ]) | (refine wpO_light (v := ?_) (later_moves) rfl rfl (fun _ _ _ h => h) ?_ ?_ ; rotate_left ; (· (intro w' hR ; (first | have hcells := later_cellsD ((later_moves).trans _ _ _ hacc hR) | skip) ; go_simp ; try with_reducible rfl)) ; simp only [Act.put, List.setIfInBounds_toArray, List.set_cons_zero, List.set_cons_succ]))
      refine wpO_call (later_moves) rfl rfl rfl (fun _ => by go_simp <;> rfl) ((HS.out).mono ?_)
      rintro e w8 ⟨rfl, hb8⟩
      refine ⟨_, rfl, hb8, ?_⟩
      replace hacc := (later_moves).trans _ _ _ hacc (hb8)
      simp only [Act.put, List.setIfInBounds_toArray, List.set_cons_zero, List.set_cons_succ]
      clear HS
      replace hb0 := below_chain hb0 hb8
      replace hm := kept_RWd _ _ _ _ hb8 hm
      replace hra := kept_RWd _ _ _ _ hb8 hra
      repeat (first | (refine wpO_skip (later_moves) rfl rfl (fun _ _ _ h => h) ?_ ; simp only [Act.put, List.setIfInBounds_toArray, List.set_cons_zero, List.set_cons_succ]) | (refine wpO_light (v := ?_) (later_moves) rfl rfl (fun _ _ _ h => h) ?_ ?_ ; rotate_left ; (· (intro w' hR ; (first | have hcells := later_cellsD ((later_moves).trans _ _ _ hacc hR) | skip) ; go_simp ; try with_reducible rfl)) ; simp only [Act.put, List.setIfInBounds_toArray, List.set_cons_zero, List.set_cons_succ]))
      refine wpO_done ?_
      have hb9 := below_chain (below_chain hbW hb7) hb8
      replace kl := kl.below hb9 kl.lt
      replace hcm := (hb9.cell (p := ⟨bm, qm + i, none⟩) hbm).trans hcm
      replace hbm := Nat.lt_of_lt_of_le hbm hb9.size
      clear hb9 hbW hb7 hb8 h7 hacc HWc cl ll HR1 hk
      have cl := kl.cell
      have ll := kl.lt
      go_wp2_with fail
      refine (HPt.out _).mono ?_
      rintro e w9 ⟨v1, v2, rfl, hpa, hpb, hbx⟩
      replace kl := kl.below hbx kl.lt
      replace hb0 := below_chain hb0 hbx
      replace hm := kept_RWd _ _ _ _ hbx hm
      replace hra := kept_RWd _ _ _ _ hbx hra
      replace hcm := (hbx.cell (p := ⟨bm, qm + i, none⟩) hbm).trans hcm
      replace hbm := Nat.lt_of_lt_of_le hbm hbx.size
      clear hbx cl ll
      have HPG := Lib.hid (show ∀ k, k < L.block → ((List.range L.block).map (domR L.p 1 L.block)).getD k 0 = domR L.p 1 L.block k from fun k hk => by rw [range_get, if_pos hk])
      have HPL := Lib.hid (show ((List.range L.block).map (domR L.p 1 L.block)).length = L.block by simp)
      obtain ⟨Ab, cb, rfl⟩ := rwd_form hpb
      clear hpb
      generalize (List.range L.block).map (domR L.p 1 L.block) = P at *
      obtain ⟨Ap, cpp, rfl⟩ := rwd_form hpa
      have hrp := (lw_at hpa).2.2.2.2
      obtain ⟨hn1, -, -, -, hrm⟩ := lw_at hm
      rw [hn1] at hrm
      have HN1 := Lib.hid hn1
      have gp : (P.length : Int) ≤ 256 := by have := HPL.out; omega
      clear hn1 hpa hm HZ1
      go_wp2_with fail
      go_loopw [80] (fun y wr => ∃ k : Nat, k ≤ P.length ∧ y = .int .i64 (k : Int) ∧ Below w9.heap.size w9 wr) (fun y _ => P.length - (intOf y).toNat)
      case atStart => exact ⟨0, Nat.zero_le _, rfl, Below.refl _ _⟩
      case round =>
        obtain ⟨k, hk, rfl, hb⟩ := hrel
        by_cases hlt : k < P.length
        · have q2 : (k : Int) < (P.length : Int) := by omega
          have q3 : (0 : Int) ≤ (k : Int) := by omega
          have q4 : (k : Int) < (n1 : Int) := by have := HN1.out; have := HPL.out; have := HZL.out; omega
          obtain ⟨bp, qp, rfl, hbp, hcp⟩ := lw_get (hrp.below hb) hlt
          obtain ⟨b1, q1', rfl, hb1', hc1⟩ := lw_get (hrm.below hb) (show k < mi.length by have := HN1.out; omega)
          have kl2 := kl.below hb kl.lt
          have cl := kl2.cell
          have ll := kl2.lt
          have hcm2 := (hb.cell (p := ⟨bm, qm + i, none⟩) hbm).trans hcm
          have hbm2 := Nat.lt_of_lt_of_le hbm hb.size
          have hra2 := kept_RWd _ _ _ _ hb hra
          obtain ⟨y, hy⟩ : ∃ y, y = P.getD k 0 := ⟨_, rfl⟩
          obtain ⟨z, hz⟩ : ∃ z, z = mi.getD k 0 := ⟨_, rfl⟩
          rw [← hy] at hcp
          rw [← hz] at hc1
          have hlb : k < L.block := by have := HPL.out; omega
          have ez : evalP L.p ra y = z := by rw [hy, HPG.out k hlb, HEV1.out k hlb, hz]
          have HE1 := Lib.hid (fun w' (hb' : Below wr.heap.size wr w') => by have := HEv.out _ _ _ y ra w' (kept_RWd _ _ _ _ hb' hra2); rw [ez] at this; exact this)
          clear hy hz ez kl2 hlb
          go_upto_region 14 with fail
          refine wpO_begin (Later) [4] [0, 1, 2, 3, 5, 6, 7, 8, 9, 10, 11, 4, 12] (by kernel_rfl) (by kernel_rfl) ?_
          refine wpO_startK (later_moves) ?_
          intro Wc HWc hacc
          have hbW : Below wr.heap.size wr Wc := by rw [HWc.out]; exact (Below.refl _ _).drew
          repeat (first | (refine wpO_skip (later_moves) rfl rfl (fun _ _ _ h => h) ?_ ; simp only [Act.put, List.setIfInBounds_toArray, List.set_cons_zero, List.set_cons_succ]) | (refine wpO_light (v := ?_) (later_moves) rfl rfl (fun _ _ _ h => h) ?_ ?_ ; rotate_left ; (· (intro w' hR ; (first | have hcells := later_cellsD ((later_moves).trans _ _ _ hacc hR) | skip) ; go_simp ; try with_reducible rfl)) ; simp only [Act.put, List.setIfInBounds_toArray, List.set_cons_zero, List.set_cons_succ]))
          refine wpO_call (later_moves) rfl rfl rfl (fun _ => by go_simp <;> rfl) ((HE1.out _ hbW).mono ?_)
          rintro e w10 ⟨rfl, hbx⟩
          refine ⟨_, rfl, hbx, ?_⟩
          replace hacc := (later_moves).trans _ _ _ hacc (hbx)
          simp only [Act.put, List.setIfInBounds_toArray, List.set_cons_zero, List.set_cons_succ]
          repeat (first | (refine wpO_skip (later_moves) rfl rfl (fun _ _ _ h => h) ?_ ; simp only [Act.put, List.setIfInBounds_toArray, List.set_cons_zero, List.set_cons_succ]) | (refine wpO_light (v := ?_) (later_moves) rfl rfl (fun _ _ _ h => h) ?_ ?_ ; rotate_left ; (· (intro w' hR ; (first | have hcells := later_cellsD ((later_moves).trans _ _ _ hacc hR) | skip) ; go_simp ; try with_reducible rfl)) ; simp only [Act.put, List.setIfInBounds_toArray, List.set_cons_zero, List.set_cons_succ]))
          refine wpO_done ?_
          have hbz := below_chain (below_chain hb hbW) hbx
          clear hacc HWc hbx hbW cl ll hcm2 hbm2 hcp hc1 hbp hb1'
          go_wp2_with fail
          go_roundw
          case rel => exact ⟨k + 1, by omega, by go_num, hbz⟩
          case measure => simp [intOf]; omega
        · obtain rfl : k = P.length := by omega
          have q2 : ¬ ((P.length : Int) < (P.length : Int)) := by omega
          go_wp2
          go_ret
          exact ⟨rfl, below_chain hb0 hb⟩
end Go.Proofs.YtefnagiffllhbaaGreat

/- MaskRowProof -/
namespace Go.Proofs.YtefnagiffllhbaaGreat.maskRow
open Go.ChangeShapes Go.WideShapes Go.ChangeAt Go.RowKit
open Go.ChangeMaps (open_string shut_string)
set_option linter.unusedVariables false

theorem own : ownKnob Tryz.prog.godebug = none := by kernel_rfl
theorem laidOut : laidOutB Tryz.prog = true := by kernel_rfl

set_option maxRecDepth 100000 in
theorem lifted (os : Os) (started : os.Started) (H : Type) (enc : TypeId × Value → H) :
    ReturnsInHanded {} Tryz.checked os 3 .any (Rows.maskRowSpec.pre6 enc Tryz.prog Tryz.f3 Rows.maskRowRow.domain false) (Rows.maskRowSpec.post enc Tryz.prog Tryz.f3 false true false false) := by
  refine returnsInHanded_of_change (C := Tryz.checked) own started (by kernel_rfl) Tryz.func3
    (ChangeSpec.witness6 (enc := enc) (C := Tryz.checked) false ⟨#[], #[.agg #[.int .u64 0, .int .i64 0, .int .i64 0, .slice none 0 0, .int .i64 0, .int .i64 0, .int .i64 0, .slice none 0 0], .int .u16 0, .int .u64 0], []⟩ 12 (by kernel_rfl) (by kernel_rfl) (by kernel_rfl) (by kernel_rfl)) ?_
  intro W base args ds gs before hval0 hW hcnd _
  have hval : ∀ (j : Nat) t v, Tryz.f3.params[j]? = some t → args[j]? = some v → Value.okWide Tryz.prog W .any base t v := hval0
  have hW' := hW
  obtain ⟨p, q, hA0, hV, rfl, hfz, hnd⟩ := hW
  have hA : DataW.TrodAll enc Tryz.prog W 0 (fun _ => true) true Tryz.f3.params.toList args.toList ds p := hA0
  rw [Tryz.params3] at hA hval
  obtain ⟨v0, vs0, d0, ds0, p0, q0, hargs, rfl, rfl, h0, r0⟩ := trodAll_cons hA
  obtain ⟨v1, vs1, d1, ds1, p1, q1, rfl, rfl, rfl, h1, r1⟩ := trodAll_cons r0
  obtain ⟨v2, vs2, d2, ds2, p2, q2, rfl, rfl, rfl, h2, r2⟩ := trodAll_cons r1
  obtain ⟨rfl, rfl, rfl⟩ := trodAll_nil r2
  obtain rfl : args = #[v0, v1, v2] := by cases args; simp_all
  obtain ⟨rfl, rfl⟩ := trodVars_none hV
  have lt0 : ∀ x ∈ p0, x.block < W.heap.size := by obtain ⟨m, hm⟩ := h0; exact DataW.trod_lt m _ _ _ hm
  have k0 := h0
  have lt1 : ∀ x ∈ p1, x.block < W.heap.size := by obtain ⟨m, hm⟩ := h1; exact DataW.trod_lt m _ _ _ hm
  have k1 := h1
  have lt2 : ∀ x ∈ p2, x.block < W.heap.size := by obtain ⟨m, hm⟩ := h2; exact DataW.trod_lt m _ _ _ hm
  have k2 := h2
  obtain ⟨cs0, rfl, z0⟩ := okWide_struct Tryz.underlying30 (hval 0 30 v0 rfl rfl)
  obtain ⟨a1, rfl, rfl, rfl, w1⟩ := open_int Tryz.underlying31 (hval 1 31 _ rfl rfl) h1
  obtain ⟨a2, rfl, rfl, rfl, w2⟩ := open_int Tryz.underlying22 (hval 2 22 _ rfl rfl) h2
  clear hA0 hval0
  refine (maskRow_walk W cs0 (Fits.of_trod k0) a1 w1 a2 w2).mono fun e W' ⟨he, bel⟩ => ?_
  subst he
  exact ⟨_, rfl, _, _, _, [], _, [], hW', trodAll_mk1 (shut_bool Tryz.underlying4 _), (trodAll_cons_mk (Below.trod laidOut (by kernel_rfl) (of_decide_eq_true (by kernel_rfl)) k0 bel lt0) (trodAll_cons_mk (Below.trod laidOut (by kernel_rfl) (of_decide_eq_true (by kernel_rfl)) k1 bel lt1) (trodAll_cons_mk (Below.trod laidOut (by kernel_rfl) (of_decide_eq_true (by kernel_rfl)) k2 bel lt2) trodAll_mk0))), rfl, bel.frame _, fun h => by cases h⟩

theorem over : Rows.maskRowRow.holds Tryz.pinned (OpenSpec.ofChange Rows.maskRowSpec) :=
  OpenClaim.holds_of_wide 3 Tryz.f3 rfl rfl rfl rfl rfl rfl rfl ⟨rfl, rfl, rfl, rfl, rfl⟩ rfl rfl rfl rfl rfl (by kernel_rfl) Tryz.func3 (by kernel_rfl)
    (of_decide_eq_true (by kernel_rfl)) (by unfold Func.isWrapper; first | (rw [if_pos (by decide +kernel)]; kernel_rfl) | (rw [if_neg (by decide +kernel)]; exact ⟨rfl, rfl⟩))
    (fun os started H enc _ => lifted os started H enc)

theorem proved : Rows.MaskRowSaid := over
#print axioms proved
end Go.Proofs.YtefnagiffllhbaaGreat.maskRow
