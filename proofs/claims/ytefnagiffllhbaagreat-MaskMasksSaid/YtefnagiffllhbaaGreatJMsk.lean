/-
  MaskMasks, for every input: the law returns true and leaves its arguments as they were. No condition.
-/
import Derived.Test.YtefnagiffllhbaaGreatJM26
import Derived.Test.YtefnagiffllhbaaGreatJMPk
import Derived.Test.YtefnagiffllhbaaGreatJMPm
import Derived.Test.YtefnagiffllhbaaGreatRows
import Derived.Test.YtefnagiffllhbaaGreatJM1

/- MaskMW -/
namespace Go.Proofs.YtefnagiffllhbaaGreat
open Go.RowKit

def tup0 (v : Value) : Value := match v with | .tuple a => a.getD 0 undef | _ => undef
/-- A pair that is known but for its first part. -/
def TupAt (f : (Nat → Value) → Value) (b : Value) (i : Nat) : Fact := fun vs _ _ => vs i = f vs ∧ ∃ a, vs i = .tuple #[a, b]
theorem stays_tup {p : Nat → Fact} {B : Nat} {X : Nat → Prop} {w0 : World} {s : Step} {f : (Nat → Value) → Value} {b : Value} (hp : p s.i = TupAt f b s.i) (hf : ∀ vs us : Nat → Value, (∀ m ∈ s.deps, us m = vs m) → f us = f vs) : Stays p B X w0 s := by
  intro vs us F w w' _ _ h _ _ hv
  rw [hp] at hv ⊢
  obtain ⟨h1, a, h2⟩ := hv
  exact ⟨by rw [h _ (by simp), h1, hf vs us fun m hm => h m (by simp [hm])], a, by rw [h _ (by simp), h2]⟩
theorem does_append {P : Program} {o : Oper} {a : Act} {w w' : World} {K : Value → World → Prop} {t : TypeId} {v v' : Value} {A : Option Addr} {m c : Nat} (s x : Operand) (ho : o.op = .call { callee := .builtin .append, args := #[s, x], argTypes := #[t, t] }) (hs : a.eval s = v) (hx : a.eval x = .slice A m c) (hrun : (Builtin.append_ #[t, t] o.type #[v, .slice A m c]).run P w = .ok v' w') (hK : K v' w') : Does P (execOp a.eval o) w K := by
  refine does_val (v := v') (w' := w') ?_ hK
  unfold execOp
  simp only [ho, resolve, invoke, builtin, Sem.run_bind, Sem.run_pure, Result.andThen_ok, List.map_toArray, List.map_cons, List.map_nil, hs, hx, hrun]
theorem tup0_mk (a b : Value) : tup0 (.tuple #[a, b]) = a := rfl
theorem range_self {l : List Nat} {n : Nat} (h : l.length = n) : (List.range n).map (fun i => l.getD i 0) = l := list_ext0 (by simp [h]) fun i hi => by
  rw [List.length_map, List.length_range] at hi
  rw [range_get, if_pos hi]
theorem masksR_len {L : LayR} {msg vals : List Nat} {pos : List Int} (h : pos.length = L.queries) : (masksR L msg pos vals).length = L.queries := by
  have h1 := lagR_len L.p (mXs L pos) (mYs L msg pos vals) _ (Nat.le_refl _)
  rw [mXs_len] at h1
  unfold masksR
  rw [padP_len]
  unfold lagL
  rw [mXs_len]
  omega
theorem masksR_lt {L : LayR} (hp : 0 < L.p) {msg vals : List Nat} {pos : List Int} (i : Nat) : (masksR L msg pos vals).getD i 0 < L.p := by
  unfold masksR
  rw [padP_get]
  exact getD_lt hp (lagL_lt hp _ _) i
/-- An append to a row inside a drawn region: what was there and is not the row stays. -/
theorem near_row {B j : Nat} {w w' : World} {F : Nat → Nat → Prop} {u : Option Nat} (h : w.grownBy w' u) (hB : B ≤ w.heap.size) (hF : ∀ q, u = some q → F j q) (hb : ∀ q, F j q → B ≤ q) : Near B w w' F [j] :=
  ⟨below_of_grown h B hB fun q e => hb q (hF q e), fun b hlt hn => h.block b hlt fun e => hn j (List.mem_singleton.2 rfl) (hF b e.symm)⟩

set_option maxRecDepth 100000 in
set_option maxHeartbeats 6000000 in
theorem maskMasks_walk (W : World) (cs0 : Array Value) (f0 : Fits Tryz.prog W 30 (Value.agg cs0).cells.toList) (cs1 : Array Value) (f1 : Fits Tryz.prog W 63 (Value.agg cs1).cells.toList) :
    Calls Tryz.prog 6 #[.agg cs0, .agg cs1] W fun e W' => e = .returned (.bool true) ∧ Below W.heap.size W W' := by
  obtain ⟨p, pub, vars, A, B, n, c, m, d, rows, ws, bl, bw, qs, rfl, hin⟩ := open_case24 f0
  obtain ⟨x, Ap, Av, np, cp, nv, cv, pos, vals, rfl, hxlt, hpos, hvals⟩ := open_op f1
  clear f0 f1
  have HR := Lib.hid (fun w' (hb : Below W.heap.size W w') => right25_any p pub vars A B n c m d rows ws bl bw qs w' (kept_RSl kept_RRow _ _ _ _ hb hin.rows) (kept_RWd _ _ _ _ hb hin.ws) hin.p)
  have HM0 := Lib.hid (fun y0 y1 y2 y3 y4 y5 y6 y7 y8 y9 y10 w => messages_no y0 y1 y2 y3 y4 y5 y6 y7 y8 y9 y10 p pub vars A B n c m d bl bw qs w)
  have HM1 := Lib.hid (fun L pu w' (hb : Below W.heap.size W w') hL h1 h2 => messages_any L pu vars A B n c m d rows ws bl bw qs w' hL (kept_RSl kept_RRow _ _ _ _ hb hin.rows) (kept_RWd _ _ _ _ hb hin.ws) h1 h2)
  clear hin
  have HRI := Lib.hid (fun w' (hb : Below W.heap.size W w') => kept_RInts _ _ _ _ hb hpos)
  have HRV := Lib.hid (fun w' (hb : Below W.heap.size W w') => kept_RWd _ _ _ _ hb hvals)
  have hpl : pos.length = np := by obtain ⟨A', n', c', he, hln, -⟩ := hpos; simp at he; obtain ⟨-, rfl, -⟩ := he; exact hln
  have hpr : -9223372036854775808 ≤ (np : Int) ∧ (np : Int) ≤ 9223372036854775807 := by obtain ⟨A', n', c', he, hln, hnc, hcx, -⟩ := hpos; simp at he; obtain ⟨-, rfl, -⟩ := he; have := lw_max hnc hcx; omega
  have HVL := Lib.hid (lw_at hvals).1
  clear hpos hvals hpl
  unfold caseCs at *
  obtain ⟨kc, ko, hb0, -⟩ := boxes2 W 30 63 #[.int .u64 (p : Int), .int .i64 pub, .int .i64 vars, .slice A n c, .int .i64 bl, .int .i64 bw, .int .i64 qs, .slice B m d] #[.int .u16 (x : Int), .slice Ap np cp, .slice Av nv cv]
  go_enter Tryz.func6, Tryz.ntmps6
  go_wp2_with fail
  generalize (W.alloc _).alloc _ = w0 at hb0 kc ko ⊢
  refine (HR.out _ hb0).mono ?_
  rintro e w1 ⟨⟨hpost, htt⟩, hb1⟩
  obtain ⟨y0, y1, y2, y3, y4, y5, y6, y7, y8, y9, y10, b, rfl, hL⟩ := hpost
  replace kc := kc.below hb1 kc.lt
  replace ko := ko.below hb1 ko.lt
  replace hb0 := below_chain hb0 hb1
  clear hb1 HR
  go_upto_region 2 with fail
  have kl := Blk.new w1 34 #[.int .u64 y0, .int .i64 y1, .int .i64 y2, .int .i64 y3, .int .i64 y4, .int .i64 y5, .int .i64 y6, .int .i64 y7, .int .i64 y8, .int .i64 y9, .int .i64 y10]
  have hal := (Below.refl w1.heap.size w1).alloc (Nat.le_refl _) (.cells #[.int .u64 y0, .int .i64 y1, .int .i64 y2, .int .i64 y3, .int .i64 y4, .int .i64 y5, .int .i64 y6, .int .i64 y7, .int .i64 y8, .int .i64 y9, .int .i64 y10] 34)
  replace kc := kc.below hal kc.lt
  replace ko := ko.below hal ko.lt
  replace hb0 := below_chain hb0 hal
  clear hal
  generalize w1.alloc _ = w2 at kl kc ko hb0 ⊢
  generalize w1.heap.size = gl at kl ⊢
  have HL := Lib.hid hL
  have HTT := Lib.hid (htt (.agg #[.int .u64 y0, .int .i64 y1, .int .i64 y2, .int .i64 y3, .int .i64 y4, .int .i64 y5, .int .i64 y6, .int .i64 y7, .int .i64 y8, .int .i64 y9, .int .i64 y10]))
  clear hL htt
  cases b
  · have cl := kl.cell
    have ll := kl.lt
    have cc := kc.cell
    have lc := kc.lt
    go_wp2_with fail
    refine (HM0.out _ _ _ _ _ _ _ _ _ _ _ _).mono ?_
    rintro e w3 ⟨rfl, hbx⟩
    replace hb0 := below_chain hb0 hbx
    clear hbx
    go_wp2_with fail
    refine (awake_any _).mono ?_
    rintro e w4 ⟨rfl, hbx⟩
    replace hb0 := below_chain hb0 hbx
    clear hbx
    go_wp2_with fail
    refine (awake_any _).mono ?_
    rintro e w5 ⟨rfl, hbx⟩
    go_wp2
    go_ret
    exact ⟨rfl, below_chain hb0 hbx⟩
  · obtain ⟨L, hL, hfor, hcs⟩ := HL.out rfl
    obtain ⟨ht, ha⟩ := HTT.out rfl
    obtain ⟨pu, rfl, h1, h2, h3⟩ := case_facts ht ha
    have hpL : p = L.p := hfor.p.symm
    subst hpL
    clear HL HTT HM0 hfor
    rw [hcs] at kl
    clear hcs ht ha
    obtain ⟨hp1, hp2⟩ := okP_lt hL.p
    have HM := Lib.hid (fun w' hb => HM1.out L pu w' hb hL h1 h2)
    have HMR := Lib.hid (fun r (hr : r ∈ msgsR L rows ws pu) => msgsR_row hr)
    have hT4 : L.a + L.b + L.b + L.b ≤ 400000 := by have := hL.a; have := hL.b; omega
    have HTL := Lib.hid (msgsR_len L rows ws pu)
    obtain ⟨M, hM⟩ : ∃ M, M = msgsR L rows ws pu := ⟨_, rfl⟩
    rw [← hM] at HM HMR HTL
    have HO := Lib.hid (fun w => own_any L w)
    have HPM := Lib.hid (fun A B C n c m d k e msg vals pos w h1 h2 h3 h4 => pMasks_any L A B C n c m d k e msg vals pos w hL h1 h2 h3 h4)
    have HRM := Lib.hid (fun A B C n c m d k e msg vals pos w h1 h2 h3 h4 => rMasks_any L A B C n c m d k e msg vals pos w hL h1 h2 h3 h4)
    have HRow := Lib.hid (fun A B n c m d msg masks w hl hk hn hm => mRow_any L A B n c m d msg masks w hL hl hk hn hm)
    have HPt := Lib.hid (fun w => rPoints_any L w hL)
    have HEv := Lib.hid (fun A n c x l w hl => rEval_any L.p A n c x l w hL.p hl)
    have HMV := Lib.hid (fun (msg : List Nat) (hm : msg.length = L.block) (h : masksOk L pos vals = true) i (hi : i < pos.length) => masks_val hL hm h hi)
    have HLT := Lib.hid (fun msg masks k => mrowP_lt (L := L) (by omega) msg masks k)
    have hq2 := hL.q2
    have hb2 := hL.b2
    obtain ⟨T, hT⟩ : ∃ T, T = L.a + L.b + L.b + L.b := ⟨_, rfl⟩
    rw [← hT] at hT4 HTL
    have HMX := Lib.hid (fun (msg : List Nat) i => masksR_lt (L := L) (by omega) (msg := msg) (vals := vals) (pos := pos) i)
    clear hM HM1 hT hL h1 h2 h3 hp1
    unfold layCs at *
    have cl := kl.cell
    have ll := kl.lt
    have cc := kc.cell
    have lc := kc.lt
    go_wp2_with fail
    refine (HM.out _ hb0).mono ?_
    rintro e w3 ⟨vM, rfl, hM, hbx⟩
    replace kl := kl.below hbx kl.lt
    replace ko := ko.below hbx ko.lt
    replace hb0 := below_chain hb0 hbx
    clear hbx cl ll cc lc kc
    obtain ⟨AM, nM, cM, rfl⟩ := RSl.slc hM
    obtain ⟨hMn, -, -, hMd⟩ := rows_at hM
    have hMT : nM = T := by rw [← hMn]; exact HTL.out
    subst hMT
    clear hM
    go_wp2_with fail
    refine (awake_any _).mono ?_
    rintro e w4 ⟨rfl, hbx⟩
    replace kl := kl.below hbx kl.lt
    replace ko := ko.below hbx ko.lt
    replace hb0 := below_chain hb0 hbx
    replace hMd := hMd.below kept_RWd hbx
    clear hbx
    rcases Nat.eq_zero_or_pos nM with h0 | h0
    · subst h0
      go_wp2_with fail
      refine (awake_any _).mono ?_
      rintro e w5 ⟨rfl, hbx⟩
      go_wp2
      go_ret
      exact ⟨rfl, below_chain hb0 hbx⟩
    have d1 : ((nM : Int) == 0) = false := by rw [beq_eq_false_iff_ne]; omega
    have d2 : ¬ ((nM : Int) = 0) := by omega
    have d3 : ¬ (nM = 0) := by omega
    have co := ko.cell
    have lo := ko.lt
    by_cases g1 : (100 : Int) < (np : Int)
    · have g1d : decide ((100 : Int) < (np : Int)) = true := decide_eq_true g1
      go_wp2_with fail
      refine (awake_any _).mono ?_
      rintro e w5 ⟨rfl, hbx⟩
      go_wp2
      go_ret
      exact ⟨rfl, below_chain hb0 hbx⟩
    have g1d : decide ((100 : Int) < (np : Int)) = false := decide_eq_false g1
    by_cases g2 : (100 : Int) < (nv : Int)
    · have g2d : decide ((100 : Int) < (nv : Int)) = true := decide_eq_true g2
      go_wp2_with fail
      refine (awake_any _).mono ?_
      rintro e w5 ⟨rfl, hbx⟩
      go_wp2
      go_ret
      exact ⟨rfl, below_chain hb0 hbx⟩
    have g2d : decide ((100 : Int) < (nv : Int)) = false := decide_eq_false g2
    obtain ⟨i, hi⟩ : ∃ i, i = x % nM := ⟨_, rfl⟩
    have hin : i < nM := by rw [hi]; exact Nat.mod_lt _ h0
    have e1 : (x : Int) % (nM : Int) = (i : Int) := by rw [hi]; rfl
    have e2 : (x : Int).tmod (nM : Int) = (i : Int) := by rw [hi]; rfl
    have e3 : IntKind.i64.wrap (x : Int) = (x : Int) := wr_i64 _ (by omega) (by omega)
    have e4 : IntKind.i64.wrap (i : Int) = (i : Int) := wr_i64 _ (by omega) (by omega)
    have e5 : (0 : Int) ≤ (i : Int) := by omega
    have e6 : (i : Int) < (nM : Int) := by omega
    clear hi
    have cl := kl.cell
    have ll := kl.lt
    obtain ⟨bm, qm, A1, n1, c1, rfl, hbm, hcm, hm⟩ := rows_get hMd (show i < M.length by omega)
    have z1 : n1 = L.block := by rw [(lw_at hm).1]; exact HMR.out _ (List.getElem_mem _)
    obtain ⟨mi, hmi⟩ : ∃ mi, mi = M[i]'(by omega) := ⟨_, rfl⟩
    rw [← hmi] at hm
    have z4 := (lw_at hm).1
    have HZ1 := Lib.hid z1
    have ltm := Lib.hid (lw_at hm).2.2.2.1
    have HMV1 := Lib.hid (HMV.out mi (by omega))
    have gn1 : n1 ≤ 256 := by omega
    clear HMV hmi z1 z4
    obtain ⟨ok, hok⟩ : ∃ ok, ok = masksOk L pos vals := ⟨_, rfl⟩
    have HOK := Lib.hid hok.symm
    have hri := HRI.out _ hb0
    obtain ⟨A', n', c', he, hln, hnc, hcx, hrd⟩ := hri
    simp at he
    obtain ⟨rfl, rfl, rfl⟩ := he
    have HRR := Lib.hid (ri_all hrd)
    rw [← hok] at HMV1
    clear hok hnc hcx HM HMR HTL
    have HVR := Lib.hid (lw_at (HRV.out _ hb0)).2.2.2.1
    subst hln
    cases ok with
    | false =>
      have HPM1 : Hid (∀ (A1 : Option Addr) (c1 : Nat) (A2 : Option Addr) (c2 : Nat) (A3 : Option Addr) (c3 : Nat) (w : World), RWd w [.slice A1 n1 c1] mi → RInts w [.slice A2 pos.length c2] pos → RWd w [.slice A3 nv c3] vals → Calls Tryz.prog 29 #[.agg #[.int .u64 (L.p : Int), .int .i64 (L.block : Int), .int .i64 (L.queries : Int), .int .i64 (L.k : Int), .int .i64 (L.n : Int), .int .i64 (L.secret : Int), .int .i64 (L.rows : Int), .int .i64 (L.a : Int), .int .i64 (L.b : Int), .int .i64 (L.b : Int), .int .i64 (L.b : Int)], .slice A1 n1 c1, .slice A2 pos.length c2, .slice A3 nv c3] w fun e w' => e = .returned (.tuple #[.slice none 0 0, .int .i64 1]) ∧ Below w.heap.size w w') := Lib.hid (fun A1 c1 A2 c2 A3 c3 w h1 h3 h4 => by
        refine (HPM.out A1 A2 A3 n1 c1 pos.length c2 nv c3 mi vals pos w h1 HZ1.out h3 h4).mono ?_
        intro e w' h
        rcases h.2 with ⟨-, h2⟩ | ⟨h2, -⟩
        · exact ⟨h2, h.1⟩
        · rw [HOK.out] at h2; cases h2)
      have HRM1 : Hid (∀ (w : World), RWd w [.slice A1 n1 c1] mi → RInts w [.slice Ap pos.length cp] pos → RWd w [.slice Av nv cv] vals → Calls Tryz.prog 30 #[.agg #[.int .u64 (L.p : Int), .int .i64 (L.block : Int), .int .i64 (L.queries : Int), .int .i64 (L.k : Int), .int .i64 (L.n : Int), .int .i64 (L.secret : Int), .int .i64 (L.rows : Int), .int .i64 (L.a : Int), .int .i64 (L.b : Int), .int .i64 (L.b : Int), .int .i64 (L.b : Int)], .slice A1 n1 c1, .slice Ap pos.length cp, .slice Av nv cv] w fun e w' => e = .returned (.tuple #[.slice none 0 0, .int .i64 1]) ∧ Below w.heap.size w w') := Lib.hid (fun w h1 h3 h4 => by
        refine (HRM.out A1 Ap Av n1 c1 pos.length cp nv cv mi vals pos w h1 HZ1.out h3 h4).mono ?_
        intro e w' h
        rcases h.2 with ⟨-, h2⟩ | ⟨h2, -⟩
        · exact ⟨h2, h.1⟩
        · rw [HOK.out] at h2; cases h2)
      clear HPM HRM HRow HPt HEv HMV1 HLT HMX HOK HZ1
      go_upto_region 6 with fail
      refine wpL_begin (From w4.heap.size) [0, 2, 3, 4, 5, 8, 9, 11, 12] 11 (by kernel_rfl) (by kernel_rfl) ?_
      refine wpL_startK (from_moves w4.heap.size) ?_
      intro Wc HWc hacc
      repeat (first | (refine wpL_skip (from_moves w4.heap.size) rfl rfl (fun _ _ _ h => h) ?_ ; simp only [Act.put, List.setIfInBounds_toArray, List.set_cons_zero, List.set_cons_succ]) | (refine wpL_light (v := ?_) (from_moves w4.heap.size) rfl rfl (fun _ _ _ h => h) ?_ ?_ ; rotate_left ; (· (intro w' hR ; (first | have hcells := from_cellsD ((from_moves w4.heap.size).trans _ _ _ hacc hR) | skip) ; go_simp ; try with_reducible rfl)) ; simp only [Act.put, List.setIfInBounds_toArray, List.set_cons_zero, List.set_cons_succ]))
      have hbW : Below w4.heap.size w4 Wc := by rw [HWc.out]; exact (Below.refl _ _).drew
      have hNc : w4.heap.size ≤ Wc.heap.size := hbW.size
      refine wpL_own (from_moves w4.heap.size) [⟨1, [], []⟩, ⟨6, [], []⟩, ⟨7, [], []⟩, ⟨10, [7], [7]⟩, ⟨13, [], []⟩, ⟨14, [1, 6, 10, 13], []⟩, ⟨15, [14], []⟩, ⟨16, [15], []⟩, ⟨17, [15], []⟩, ⟨18, [16], []⟩] [(1, ValAt (fun _ => .agg #[.int .u64 (L.p : Int), .int .i64 (L.block : Int), .int .i64 (L.queries : Int), .int .i64 (L.k : Int), .int .i64 (L.n : Int), .int .i64 (L.secret : Int), .int .i64 (L.rows : Int), .int .i64 (L.a : Int), .int .i64 (L.b : Int), .int .i64 (L.b : Int), .int .i64 (L.b : Int)]) 1), (6, RowAt 22 n1 (U64 mi) 6), (7, RowAt 3 0 [] 7), (10, RowAt 3 pos.length (I64 pos) 10), (13, RowAt 22 nv (U64 vals) 13), (14, ValAt (fun _ => .tuple #[.slice none 0 0, .int .i64 1]) 14), (15, ValAt (fun _ => .tuple #[.slice none 0 0, .int .i64 1]) 15), (16, ValAt (fun _ => .slice none 0 0) 16), (17, ValAt (fun _ => .int .i64 1) 17), (18, ValAt (fun _ => .slice none 0 0) 18)] [(some 55, 1), (some 60, 6), (some 61, 7), (some 64, 10), (some 67, 13), (some 68, 14), (some 53, 15), (some 69, 16), (some 70, 17), (some 9, 18)] [19] [19] (by kernel_rfl) (by kernel_rfl) (by first | exact Nat.le_refl _ | omega) (fun w1 h1 => h1) ?_ ?_ ?_
      · exact List.forall_mem_cons.2 ⟨stays_val rfl (fun _ _ _ => rfl), List.forall_mem_cons.2 ⟨stays_row rfl, List.forall_mem_cons.2 ⟨stays_row rfl, List.forall_mem_cons.2 ⟨stays_row rfl, List.forall_mem_cons.2 ⟨stays_row rfl, List.forall_mem_cons.2 ⟨stays_val rfl (fun _ _ _ => rfl), List.forall_mem_cons.2 ⟨stays_val rfl (fun _ _ _ => rfl), List.forall_mem_cons.2 ⟨stays_val rfl (fun _ _ _ => rfl), List.forall_mem_cons.2 ⟨stays_val rfl (fun _ _ _ => rfl), List.forall_mem_cons.2 ⟨stays_val rfl (fun _ _ _ => rfl), List.forall_mem_nil _⟩⟩⟩⟩⟩⟩⟩⟩⟩⟩
      · refine List.forall_mem_cons.2 ⟨?_, List.forall_mem_cons.2 ⟨?_, List.forall_mem_cons.2 ⟨?_, List.forall_mem_cons.2 ⟨?_, List.forall_mem_cons.2 ⟨?_, List.forall_mem_cons.2 ⟨?_, List.forall_mem_cons.2 ⟨?_, List.forall_mem_cons.2 ⟨?_, List.forall_mem_cons.2 ⟨?_, List.forall_mem_cons.2 ⟨?_, List.forall_mem_nil _⟩⟩⟩⟩⟩⟩⟩⟩⟩⟩
        · refine task_mk [] rfl (by kernel_rfl) ?_
          intro w1 vs F hb1 hd hdis
          clear hd
          unfold puts
          simp only [List.foldl]
          change Does _ _ _ fun v w' => Near _ w1 w' F [] ∧ ValAt (fun _ => .agg #[.int .u64 (L.p : Int), .int .i64 (L.block : Int), .int .i64 (L.queries : Int), .int .i64 (L.k : Int), .int .i64 (L.n : Int), .int .i64 (L.secret : Int), .int .i64 (L.rows : Int), .int .i64 (L.a : Int), .int .i64 (L.b : Int), .int .i64 (L.b : Int), .int .i64 (L.b : Int)]) 1 (upd vs 1 v) (Grown w1 w' F []) w'
          have hB1 := Nat.le_trans hNc hb1.size
          refine does_call (by go_simp <;> rfl) (HO.out _) ?_
          rintro e w2 ⟨rfl, hb2⟩
          exact ⟨_, rfl, near_below hb2 hB1 _ _, rfl⟩
        · refine task_mk [] rfl (by kernel_rfl) ?_
          intro w1 vs F hb1 hd hdis
          clear hd
          unfold puts
          simp only [List.foldl]
          change Does _ _ _ fun v w' => Near _ w1 w' F [] ∧ RowAt 22 n1 (U64 mi) 6 (upd vs 6 v) (Grown w1 w' F []) w'
          have hB1 := Nat.le_trans hNc hb1.size
          refine does_call (by go_simp <;> rfl) (cp_any A1 n1 c1 mi w1 (kept_RWd _ _ _ _ (hbW.trans hb1) hm) (by omega)) ?_
          rintro e w2 ⟨v, rfl, ho, hb2⟩
          exact ⟨_, rfl, near_below hb2 hB1 _ _, row_of ho⟩
        · refine task_mk [] rfl (by kernel_rfl) ?_
          intro w1 vs F hb1 hd hdis
          clear hd
          unfold puts
          simp only [List.foldl]
          change Does _ _ _ fun v w' => Near _ w1 w' F [] ∧ RowAt 3 0 [] 7 (upd vs 7 v) (Grown w1 w' F []) w'
          have hB1 := Nat.le_trans hNc hb1.size
          exact does_val (v := .slice (some ⟨w1.heap.size, 0, none⟩) 0 0) (w' := w1.alloc (.cells #[] 3)) (by go_simp <;> rfl) ⟨near_below ((Below.refl _ _).alloc (Nat.le_refl _) _) hB1 _ _, row_of (own_empty w1 _ (Nat.le_refl _))⟩
        · refine task_mk [(some 61, 7)] rfl (by kernel_rfl) ?_
          intro w1 vs F hb1 hd hdis
          have d7 : RowAt 3 0 [] 7 vs (F 7) w1 ∧ ∀ b, F 7 b → b < w1.heap.size ∧ _ ≤ b := hd 7 (by decide)
          clear hd
          unfold puts
          simp only [List.foldl]
          change Does _ _ _ fun v w' => Near _ w1 w' F [7] ∧ RowAt 3 pos.length (I64 pos) 10 (upd vs 10 v) (Grown w1 w' F [7]) w'
          have hB1 := Nat.le_trans hNc hb1.size
          obtain ⟨A7, c7, e7, o7, h7⟩ := d7.1
          rw [e7]
          obtain ⟨v', w', hrun, h2, h3, h4⟩ := run_append_rd (P := Tryz.prog) (c := cp) el_i 61 o7 (ri_rd (hrd.below kept_RI1 (hbW.trans hb1))) (one_I64 pos) (by omega) (Nat.zero_le _)
          refine does_append _ _ rfl rfl rfl hrun ⟨near_row h3 hB1 (fun q e => h7 q e) (fun q hq => (d7.2 q hq).2), ?_⟩
          obtain ⟨A8, c8, rfl, -⟩ := own_form h2
          rw [Nat.zero_add, List.nil_append] at h2
          rw [Nat.zero_add] at h4 ⊢
          exact ⟨A8, c8, upd_self _ _ _, h2, fun g e => by
            rcases h4 with h | h
            · exact .inr ⟨7, List.mem_singleton.2 rfl, h7 g (h ▸ e)⟩
            · rw [h] at e
              have eg := Option.some.inj e
              exact .inl ⟨by omega, (h2.lt g (by rw [h, eg])).2⟩⟩
        · refine task_mk [] rfl (by kernel_rfl) ?_
          intro w1 vs F hb1 hd hdis
          clear hd
          unfold puts
          simp only [List.foldl]
          change Does _ _ _ fun v w' => Near _ w1 w' F [] ∧ RowAt 22 nv (U64 vals) 13 (upd vs 13 v) (Grown w1 w' F []) w'
          have hB1 := Nat.le_trans hNc hb1.size
          refine does_call (by go_simp <;> rfl) (cp_any Av nv cv vals w1 (HRV.out _ (below_chain hb0 (hbW.trans hb1))) (by omega)) ?_
          rintro e w2 ⟨v, rfl, ho, hb2⟩
          exact ⟨_, rfl, near_below hb2 hB1 _ _, row_of ho⟩
        · refine task_mk [(some 55, 1), (some 60, 6), (some 64, 10), (some 67, 13)] rfl (by kernel_rfl) ?_
          intro w1 vs F hb1 hd hdis
          have d1 : ValAt (fun _ => .agg #[.int .u64 (L.p : Int), .int .i64 (L.block : Int), .int .i64 (L.queries : Int), .int .i64 (L.k : Int), .int .i64 (L.n : Int), .int .i64 (L.secret : Int), .int .i64 (L.rows : Int), .int .i64 (L.a : Int), .int .i64 (L.b : Int), .int .i64 (L.b : Int), .int .i64 (L.b : Int)]) 1 vs (F 1) w1 ∧ ∀ b, F 1 b → b < w1.heap.size ∧ _ ≤ b := hd 1 (by decide)
          have d6 : RowAt 22 n1 (U64 mi) 6 vs (F 6) w1 ∧ ∀ b, F 6 b → b < w1.heap.size ∧ _ ≤ b := hd 6 (by decide)
          have d10 : RowAt 3 pos.length (I64 pos) 10 vs (F 10) w1 ∧ ∀ b, F 10 b → b < w1.heap.size ∧ _ ≤ b := hd 10 (by decide)
          have d13 : RowAt 22 nv (U64 vals) 13 vs (F 13) w1 ∧ ∀ b, F 13 b → b < w1.heap.size ∧ _ ≤ b := hd 13 (by decide)
          clear hd
          unfold puts
          simp only [List.foldl]
          change Does _ _ _ fun v w' => Near _ w1 w' F [] ∧ ValAt (fun _ => .tuple #[.slice none 0 0, .int .i64 1]) 14 (upd vs 14 v) (Grown w1 w' F []) w'
          have hB1 := Nat.le_trans hNc hb1.size
          have e1 : vs 1 = _ := d1.1
          obtain ⟨A6, c6, e6, o6, -⟩ := d6.1
          obtain ⟨A8, c8, e8, o8, -⟩ := d10.1
          obtain ⟨A9, c9, e9, o9, -⟩ := d13.1
          rw [e1, e6, e8, e9]
          refine does_call (by go_simp <;> rfl) (HPM1.out A6 c6 A8 c8 A9 c9 w1 (lw_own o6 ltm.out) (own_ri o8 HRR.out) (lw_own o9 HVR.out)) ?_
          rintro e w2 ⟨rfl, hb2⟩
          exact ⟨_, rfl, near_below hb2 hB1 _ _, rfl⟩
        · refine task_mk [(some 68, 14)] rfl (by kernel_rfl) ?_
          intro w1 vs F hb1 hd hdis
          have d14 : ValAt (fun _ => .tuple #[.slice none 0 0, .int .i64 1]) 14 vs (F 14) w1 ∧ ∀ b, F 14 b → b < w1.heap.size ∧ _ ≤ b := hd 14 (by decide)
          clear hd
          unfold puts
          simp only [List.foldl]
          change Does _ _ _ fun v w' => Near _ w1 w' F [] ∧ ValAt (fun _ => .tuple #[.slice none 0 0, .int .i64 1]) 15 (upd vs 15 v) (Grown w1 w' F []) w'
          have e14 : vs 14 = _ := d14.1
          exact does_val (v := .tuple #[.slice none 0 0, .int .i64 1]) (w' := w1) (by rw [e14]; go_simp <;> rfl) ⟨near_same _ _ _ _, rfl⟩
        · refine task_mk [(some 53, 15)] rfl (by kernel_rfl) ?_
          intro w1 vs F hb1 hd hdis
          have d15 : ValAt (fun _ => .tuple #[.slice none 0 0, .int .i64 1]) 15 vs (F 15) w1 ∧ ∀ b, F 15 b → b < w1.heap.size ∧ _ ≤ b := hd 15 (by decide)
          clear hd
          unfold puts
          simp only [List.foldl]
          change Does _ _ _ fun v w' => Near _ w1 w' F [] ∧ ValAt (fun _ => .slice none 0 0) 16 (upd vs 16 v) (Grown w1 w' F []) w'
          have e15 : vs 15 = _ := d15.1
          exact does_val (v := .slice none 0 0) (w' := w1) (by rw [e15]; go_simp <;> rfl) ⟨near_same _ _ _ _, rfl⟩
        · refine task_mk [(some 53, 15)] rfl (by kernel_rfl) ?_
          intro w1 vs F hb1 hd hdis
          have d15 : ValAt (fun _ => .tuple #[.slice none 0 0, .int .i64 1]) 15 vs (F 15) w1 ∧ ∀ b, F 15 b → b < w1.heap.size ∧ _ ≤ b := hd 15 (by decide)
          clear hd
          unfold puts
          simp only [List.foldl]
          change Does _ _ _ fun v w' => Near _ w1 w' F [] ∧ ValAt (fun _ => .int .i64 1) 17 (upd vs 17 v) (Grown w1 w' F []) w'
          have e15 : vs 15 = _ := d15.1
          exact does_val (v := .int .i64 1) (w' := w1) (by rw [e15]; go_simp <;> rfl) ⟨near_same _ _ _ _, rfl⟩
        · refine task_mk [(some 69, 16)] rfl (by kernel_rfl) ?_
          intro w1 vs F hb1 hd hdis
          have d16 : ValAt (fun _ => .slice none 0 0) 16 vs (F 16) w1 ∧ ∀ b, F 16 b → b < w1.heap.size ∧ _ ≤ b := hd 16 (by decide)
          clear hd
          unfold puts
          simp only [List.foldl]
          change Does _ _ _ fun v w' => Near _ w1 w' F [] ∧ ValAt (fun _ => .slice none 0 0) 18 (upd vs 18 v) (Grown w1 w' F []) w'
          have e16 : vs 16 = _ := d16.1
          exact does_val (v := .slice none 0 0) (w' := w1) (by rw [e16]; go_simp <;> rfl) ⟨near_same _ _ _ _, rfl⟩
      intro wf vs F hbf hf hdis
      have f1 : ValAt (fun _ => .agg #[.int .u64 (L.p : Int), .int .i64 (L.block : Int), .int .i64 (L.queries : Int), .int .i64 (L.k : Int), .int .i64 (L.n : Int), .int .i64 (L.secret : Int), .int .i64 (L.rows : Int), .int .i64 (L.a : Int), .int .i64 (L.b : Int), .int .i64 (L.b : Int), .int .i64 (L.b : Int)]) 1 vs (F 1) wf ∧ ∀ b, F 1 b → b < wf.heap.size ∧ _ ≤ b := hf _ (.head _) (by decide)
      have f6 : RowAt 22 n1 (U64 mi) 6 vs (F 6) wf ∧ ∀ b, F 6 b → b < wf.heap.size ∧ _ ≤ b := hf _ (.tail _ (.head _)) (by decide)
      have f10 : RowAt 3 pos.length (I64 pos) 10 vs (F 10) wf ∧ ∀ b, F 10 b → b < wf.heap.size ∧ _ ≤ b := hf _ (.tail _ (.tail _ (.tail _ (.head _)))) (by decide)
      have f13 : RowAt 22 nv (U64 vals) 13 vs (F 13) wf ∧ ∀ b, F 13 b → b < wf.heap.size ∧ _ ≤ b := hf _ (.tail _ (.tail _ (.tail _ (.tail _ (.head _))))) (by decide)
      have f14 : ValAt (fun _ => .tuple #[.slice none 0 0, .int .i64 1]) 14 vs (F 14) wf ∧ ∀ b, F 14 b → b < wf.heap.size ∧ _ ≤ b := hf _ (.tail _ (.tail _ (.tail _ (.tail _ (.tail _ (.head _)))))) (by decide)
      have f15 : ValAt (fun _ => .tuple #[.slice none 0 0, .int .i64 1]) 15 vs (F 15) wf ∧ ∀ b, F 15 b → b < wf.heap.size ∧ _ ≤ b := hf _ (.tail _ (.tail _ (.tail _ (.tail _ (.tail _ (.tail _ (.head _))))))) (by decide)
      have f16 : ValAt (fun _ => .slice none 0 0) 16 vs (F 16) wf ∧ ∀ b, F 16 b → b < wf.heap.size ∧ _ ≤ b := hf _ (.tail _ (.tail _ (.tail _ (.tail _ (.tail _ (.tail _ (.tail _ (.head _)))))))) (by decide)
      have f17 : ValAt (fun _ => .int .i64 1) 17 vs (F 17) wf ∧ ∀ b, F 17 b → b < wf.heap.size ∧ _ ≤ b := hf _ (.tail _ (.tail _ (.tail _ (.tail _ (.tail _ (.tail _ (.tail _ (.tail _ (.head _))))))))) (by decide)
      have f18 : ValAt (fun _ => .slice none 0 0) 18 vs (F 18) wf ∧ ∀ b, F 18 b → b < wf.heap.size ∧ _ ≤ b := hf _ (.tail _ (.tail _ (.tail _ (.tail _ (.tail _ (.tail _ (.tail _ (.tail _ (.tail _ (.head _)))))))))) (by decide)
      clear hf
      unfold puts
      simp only [List.foldl]
      have e1 : vs 1 = .agg #[.int .u64 (L.p : Int), .int .i64 (L.block : Int), .int .i64 (L.queries : Int), .int .i64 (L.k : Int), .int .i64 (L.n : Int), .int .i64 (L.secret : Int), .int .i64 (L.rows : Int), .int .i64 (L.a : Int), .int .i64 (L.b : Int), .int .i64 (L.b : Int), .int .i64 (L.b : Int)] := f1.1
      obtain ⟨⟨A6, c6, e6, o6, h6⟩, b6⟩ := f6
      obtain ⟨⟨A10, c10, e10, o10, h10⟩, b10⟩ := f10
      obtain ⟨⟨A13, c13, e13, o13, h13⟩, b13⟩ := f13
      have e14 : vs 14 = .tuple #[.slice none 0 0, .int .i64 1] := f14.1
      have e15 : vs 15 = .tuple #[.slice none 0 0, .int .i64 1] := f15.1
      have e16 : vs 16 = .slice none 0 0 := f16.1
      have e17 : vs 17 = .int .i64 1 := f17.1
      have e18 : vs 18 = .slice none 0 0 := f18.1
      simp only [e1, e6, e10, e13, e14, e15, e16, e17, e18]
      clear f1 f14 f15 f16 f17 f18 e1 e6 e10 e13 e14 e15 e16 e17 e18
      try dsimp only [mkS]
      try dsimp only [mkP]
      clear hdis
      repeat (first | (refine wpO_skip (from_moves w4.heap.size) rfl rfl (fun _ _ _ h => h) ?_ ; simp only [Act.put, List.setIfInBounds_toArray, List.set_cons_zero, List.set_cons_succ]) | (refine wpO_light (v := ?_) (from_moves w4.heap.size) rfl rfl (fun _ _ _ h => h) ?_ ?_ ; rotate_left ; (· (intro w' hR ; (first | have hcells := from_cellsD ((from_moves w4.heap.size).trans _ _ _ hacc hR) | skip) ; go_simp ; try with_reducible rfl)) ; simp only [Act.put, List.setIfInBounds_toArray, List.set_cons_zero, List.set_cons_succ]))
      refine wpO_done ?_
      have hb5 := hbW.trans hbf
      replace kl := kl.below hb5 kl.lt
      replace ko := ko.below hb5 ko.lt
      replace hm := kept_RWd _ _ _ _ hb5 hm
      replace hb0 := below_chain hb0 hb5
      replace hcm := (hb5.cell (p := ⟨bm, qm + i, none⟩) hbm).trans hcm
      replace hbm := Nat.lt_of_lt_of_le hbm hb5.size
      clear hbW hbf HWc hacc hNc hb5 cl ll co lo HPM1
      try clear o6 h6
      try clear o10 h10
      try clear o13 h13
      have cl := kl.cell
      have ll := kl.lt
      have co := ko.cell
      have lo := ko.lt
      have hri := HRI.out _ hb0
      have hrv := HRV.out _ hb0
      go_upto_region 7 with fail
      refine wpO_begin (Later) [9] [0, 1, 2, 3, 4, 5, 6, 7, 8, 9, 10, 11, 12, 13, 14] (by kernel_rfl) (by kernel_rfl) ?_
      refine wpO_startK (later_moves) ?_
      intro Wc HWc hacc
      have hbW : Below wf.heap.size wf Wc := by rw [HWc.out]; exact (Below.refl _ _).drew
      replace hri := kept_RInts _ _ _ _ hbW hri
      replace hm := kept_RWd _ _ _ _ hbW hm
      replace hrv := kept_RWd _ _ _ _ hbW hrv
      repeat (first | (refine wpO_skip (later_moves) rfl rfl (fun _ _ _ h => h) ?_ ; simp only [Act.put, List.setIfInBounds_toArray, List.set_cons_zero, List.set_cons_succ]) | (refine wpO_light (v := ?_) (later_moves) rfl rfl (fun _ _ _ h => h) ?_ ?_ ; rotate_left ; (· (intro w' hR ; (first | have hcells := later_cellsD ((later_moves).trans _ _ _ hacc hR) | skip) ; go_simp ; try with_reducible rfl)) ; simp only [Act.put, List.setIfInBounds_toArray, List.set_cons_zero, List.set_cons_succ]))
      refine wpO_call (later_moves) rfl rfl rfl (fun _ => by go_simp <;> rfl) ((HRM1.out _ hm hri hrv).mono ?_)
      rintro e w7 ⟨rfl, hbx⟩
      refine ⟨_, rfl, hbx, ?_⟩
      replace hacc := (later_moves).trans _ _ _ hacc (hbx)
      simp only [Act.put, List.setIfInBounds_toArray, List.set_cons_zero, List.set_cons_succ]
      repeat (first | (refine wpO_skip (later_moves) rfl rfl (fun _ _ _ h => h) ?_ ; simp only [Act.put, List.setIfInBounds_toArray, List.set_cons_zero, List.set_cons_succ]) | (refine wpO_light (v := ?_) (later_moves) rfl rfl (fun _ _ _ h => h) ?_ ?_ ; rotate_left ; (· (intro w' hR ; (first | have hcells := later_cellsD ((later_moves).trans _ _ _ hacc hR) | skip) ; go_simp ; try with_reducible rfl)) ; simp only [Act.put, List.setIfInBounds_toArray, List.set_cons_zero, List.set_cons_succ]))
      refine wpO_done ?_
      replace hb0 := below_chain (below_chain hb0 hbW) hbx
      clear hbW hbx HWc hacc cl ll co lo hri hrv hm kl ko
      have hnil : RWd w7 [.slice none 0 0] [] := ⟨none, 0, 0, rfl, Nat.le_refl _, by simp [maxLen], ⟨rfl, fun h => absurd h (by omega)⟩, fun x hx => by cases hx⟩
      have HS := Lib.hid (rSame01_any _ _ _ _ _ _ _ _ _ hnil hnil)
      rw [decide_eq_true rfl] at HS
      go_wp2_with fail
      refine HS.out.mono ?_
      rintro e w8 ⟨rfl, hbx⟩
      go_wp2
      go_ret
      exact ⟨rfl, below_chain hb0 hbx⟩
    | true =>
      obtain ⟨MR, hMR⟩ : ∃ MR, MR = masksR L mi pos vals := ⟨_, rfl⟩
      have HQQ : Hid (pos.length = L.queries) := Lib.hid <| by have h := HOK.out; unfold masksOk at h; rw [Bool.and_eq_true] at h; exact posOk_len h.1
      have HVQ : Hid (vals.length = L.queries) := Lib.hid <| by have h := HOK.out; unfold masksOk elOk at h; rw [Bool.and_eq_true, Bool.and_eq_true] at h; exact of_decide_eq_true h.2.1
      have HPA := Lib.hid (fun i hi => posOk_at (N := L.n) (Q := L.queries) (l := pos) (by have h := HOK.out; unfold masksOk at h; rw [Bool.and_eq_true] at h; exact h.1) (i := i) hi)
      have HML := Lib.hid (show MR.length = L.queries by rw [hMR]; exact masksR_len HQQ.out)
      have HMX1 := Lib.hid (show ∀ i, MR.getD i 0 < 18446744073709551616 from fun i => by rw [hMR]; exact Nat.lt_trans (HMX.out mi i) hp2)
      obtain ⟨RW, hRW⟩ : ∃ RW, RW = mrowL L mi MR := ⟨_, rfl⟩
      have HMV2 := Lib.hid (show ∀ k, k < pos.length → evalP L.p RW (mxV L pos k) = vals.getD k 0 from fun k hk => by rw [hRW, hMR]; exact HMV1.out rfl k hk)
      have HLT1 := Lib.hid (show ∀ k, mrowP L mi MR k < 18446744073709551616 from fun k => Nat.lt_trans (HLT.out mi MR k) hp2)
      have HRL := Lib.hid (show (List.range (L.block + L.queries)).map (mrowP L mi MR) = RW by rw [hRW]; unfold mrowL; rw [HML.out])
      have HRow1 := Lib.hid (fun A c B d w hl hk => HRow.out A B n1 c L.queries d mi MR w hl hk HZ1.out (by omega))
      have HPM1 : Hid (∀ (A1 : Option Addr) (c1 : Nat) (A2 : Option Addr) (c2 : Nat) (A3 : Option Addr) (c3 : Nat) (w : World), RWd w [.slice A1 n1 c1] mi → RInts w [.slice A2 pos.length c2] pos → RWd w [.slice A3 nv c3] vals → Calls Tryz.prog 29 #[.agg #[.int .u64 (L.p : Int), .int .i64 (L.block : Int), .int .i64 (L.queries : Int), .int .i64 (L.k : Int), .int .i64 (L.n : Int), .int .i64 (L.secret : Int), .int .i64 (L.rows : Int), .int .i64 (L.a : Int), .int .i64 (L.b : Int), .int .i64 (L.b : Int), .int .i64 (L.b : Int)], .slice A1 n1 c1, .slice A2 pos.length c2, .slice A3 nv c3] w fun e w' => ∃ g, e = .returned (.tuple #[.slice (some ⟨g, 0, none⟩) L.queries L.queries, .int .i64 0]) ∧ w.heap.size ≤ g ∧ Blk w' g 22 (fillC L.queries fun i => MR.getD i 0) ∧ Below w.heap.size w w') := Lib.hid (fun A1 c1 A2 c2 A3 c3 w h1 h3 h4 => by
        refine (HPM.out A1 A2 A3 n1 c1 pos.length c2 nv c3 mi vals pos w h1 HZ1.out h3 h4).mono ?_
        intro e w' h
        rcases h.2 with ⟨h2, -⟩ | ⟨-, g, h2, h3, h4⟩
        · rw [HOK.out] at h2; cases h2
        · exact ⟨g, h2, h3, by rw [hMR]; exact h4, h.1⟩)
      have HRM1 : Hid (∀ (w : World), RWd w [.slice A1 n1 c1] mi → RInts w [.slice Ap pos.length cp] pos → RWd w [.slice Av nv cv] vals → Calls Tryz.prog 30 #[.agg #[.int .u64 (L.p : Int), .int .i64 (L.block : Int), .int .i64 (L.queries : Int), .int .i64 (L.k : Int), .int .i64 (L.n : Int), .int .i64 (L.secret : Int), .int .i64 (L.rows : Int), .int .i64 (L.a : Int), .int .i64 (L.b : Int), .int .i64 (L.b : Int), .int .i64 (L.b : Int)], .slice A1 n1 c1, .slice Ap pos.length cp, .slice Av nv cv] w fun e w' => ∃ v, e = .returned (.tuple #[v, .int .i64 0]) ∧ RWd w' [v] MR ∧ Below w.heap.size w w') := Lib.hid (fun w h1 h3 h4 => by
        refine (HRM.out A1 Ap Av n1 c1 pos.length cp nv cv mi vals pos w h1 HZ1.out h3 h4).mono ?_
        intro e w' h
        rcases h.2 with ⟨h2, -⟩ | ⟨-, v, h2, h3⟩
        · rw [HOK.out] at h2; cases h2
        · exact ⟨v, h2, by rw [hMR]; exact h3, h.1⟩)
      clear HPM HRM HRow HMV1 HLT HMX HOK HZ1 hMR hRW
      go_upto_region 6 with fail
      refine wpL_begin (From w4.heap.size) [0, 2, 3, 4, 5, 8, 9, 11, 12] 11 (by kernel_rfl) (by kernel_rfl) ?_
      refine wpL_startK (from_moves w4.heap.size) ?_
      intro Wc HWc hacc
      repeat (first | (refine wpL_skip (from_moves w4.heap.size) rfl rfl (fun _ _ _ h => h) ?_ ; simp only [Act.put, List.setIfInBounds_toArray, List.set_cons_zero, List.set_cons_succ]) | (refine wpL_light (v := ?_) (from_moves w4.heap.size) rfl rfl (fun _ _ _ h => h) ?_ ?_ ; rotate_left ; (· (intro w' hR ; (first | have hcells := from_cellsD ((from_moves w4.heap.size).trans _ _ _ hacc hR) | skip) ; go_simp ; try with_reducible rfl)) ; simp only [Act.put, List.setIfInBounds_toArray, List.set_cons_zero, List.set_cons_succ]))
      have hbW : Below w4.heap.size w4 Wc := by rw [HWc.out]; exact (Below.refl _ _).drew
      have hNc : w4.heap.size ≤ Wc.heap.size := hbW.size
      refine wpL_own (from_moves w4.heap.size) [⟨1, [], []⟩, ⟨6, [], []⟩, ⟨7, [], []⟩, ⟨10, [7], [7]⟩, ⟨13, [], []⟩, ⟨14, [1, 6, 10, 13], []⟩, ⟨15, [14], []⟩, ⟨16, [15], []⟩, ⟨17, [15], []⟩, ⟨18, [16], []⟩] [(1, ValAt (fun _ => .agg #[.int .u64 (L.p : Int), .int .i64 (L.block : Int), .int .i64 (L.queries : Int), .int .i64 (L.k : Int), .int .i64 (L.n : Int), .int .i64 (L.secret : Int), .int .i64 (L.rows : Int), .int .i64 (L.a : Int), .int .i64 (L.b : Int), .int .i64 (L.b : Int), .int .i64 (L.b : Int)]) 1), (6, RowAt 22 n1 (U64 mi) 6), (7, RowAt 3 0 [] 7), (10, RowAt 3 pos.length (I64 pos) 10), (13, RowAt 22 nv (U64 vals) 13), (14, BlkAt 22 (fun _ => fillC L.queries fun i => MR.getD i 0) (fun g => .tuple #[.slice (some ⟨g, 0, none⟩) L.queries L.queries, .int .i64 0]) 14), (15, TupAt (fun vs => vs 14) (.int .i64 0) 15), (16, ValAt (fun vs => tup0 (vs 15)) 16), (17, ValAt (fun _ => .int .i64 0) 17), (18, ValAt (fun vs => vs 16) 18)] [(some 55, 1), (some 60, 6), (some 61, 7), (some 64, 10), (some 67, 13), (some 68, 14), (some 53, 15), (some 69, 16), (some 70, 17), (some 9, 18)] [19] [19] (by kernel_rfl) (by kernel_rfl) (by first | exact Nat.le_refl _ | omega) (fun w1 h1 => h1) ?_ ?_ ?_
      · exact List.forall_mem_cons.2 ⟨stays_val rfl (fun _ _ _ => rfl), List.forall_mem_cons.2 ⟨stays_row rfl, List.forall_mem_cons.2 ⟨stays_row rfl, List.forall_mem_cons.2 ⟨stays_row rfl, List.forall_mem_cons.2 ⟨stays_row rfl, List.forall_mem_cons.2 ⟨stays_blk rfl (fun _ _ _ => rfl), List.forall_mem_cons.2 ⟨stays_tup rfl (fun vs us h => by simp only [h 14 (by decide)]), List.forall_mem_cons.2 ⟨stays_val rfl (fun vs us h => by simp only [h 15 (by decide)]), List.forall_mem_cons.2 ⟨stays_val rfl (fun _ _ _ => rfl), List.forall_mem_cons.2 ⟨stays_val rfl (fun vs us h => by simp only [h 16 (by decide)]), List.forall_mem_nil _⟩⟩⟩⟩⟩⟩⟩⟩⟩⟩
      · refine List.forall_mem_cons.2 ⟨?_, List.forall_mem_cons.2 ⟨?_, List.forall_mem_cons.2 ⟨?_, List.forall_mem_cons.2 ⟨?_, List.forall_mem_cons.2 ⟨?_, List.forall_mem_cons.2 ⟨?_, List.forall_mem_cons.2 ⟨?_, List.forall_mem_cons.2 ⟨?_, List.forall_mem_cons.2 ⟨?_, List.forall_mem_cons.2 ⟨?_, List.forall_mem_nil _⟩⟩⟩⟩⟩⟩⟩⟩⟩⟩
        · refine task_mk [] rfl (by kernel_rfl) ?_
          intro w1 vs F hb1 hd hdis
          clear hd
          unfold puts
          simp only [List.foldl]
          change Does _ _ _ fun v w' => Near _ w1 w' F [] ∧ ValAt (fun _ => .agg #[.int .u64 (L.p : Int), .int .i64 (L.block : Int), .int .i64 (L.queries : Int), .int .i64 (L.k : Int), .int .i64 (L.n : Int), .int .i64 (L.secret : Int), .int .i64 (L.rows : Int), .int .i64 (L.a : Int), .int .i64 (L.b : Int), .int .i64 (L.b : Int), .int .i64 (L.b : Int)]) 1 (upd vs 1 v) (Grown w1 w' F []) w'
          have hB1 := Nat.le_trans hNc hb1.size
          refine does_call (by go_simp <;> rfl) (HO.out _) ?_
          rintro e w2 ⟨rfl, hb2⟩
          exact ⟨_, rfl, near_below hb2 hB1 _ _, rfl⟩
        · refine task_mk [] rfl (by kernel_rfl) ?_
          intro w1 vs F hb1 hd hdis
          clear hd
          unfold puts
          simp only [List.foldl]
          change Does _ _ _ fun v w' => Near _ w1 w' F [] ∧ RowAt 22 n1 (U64 mi) 6 (upd vs 6 v) (Grown w1 w' F []) w'
          have hB1 := Nat.le_trans hNc hb1.size
          refine does_call (by go_simp <;> rfl) (cp_any A1 n1 c1 mi w1 (kept_RWd _ _ _ _ (hbW.trans hb1) hm) (by omega)) ?_
          rintro e w2 ⟨v, rfl, ho, hb2⟩
          exact ⟨_, rfl, near_below hb2 hB1 _ _, row_of ho⟩
        · refine task_mk [] rfl (by kernel_rfl) ?_
          intro w1 vs F hb1 hd hdis
          clear hd
          unfold puts
          simp only [List.foldl]
          change Does _ _ _ fun v w' => Near _ w1 w' F [] ∧ RowAt 3 0 [] 7 (upd vs 7 v) (Grown w1 w' F []) w'
          have hB1 := Nat.le_trans hNc hb1.size
          exact does_val (v := .slice (some ⟨w1.heap.size, 0, none⟩) 0 0) (w' := w1.alloc (.cells #[] 3)) (by go_simp <;> rfl) ⟨near_below ((Below.refl _ _).alloc (Nat.le_refl _) _) hB1 _ _, row_of (own_empty w1 _ (Nat.le_refl _))⟩
        · refine task_mk [(some 61, 7)] rfl (by kernel_rfl) ?_
          intro w1 vs F hb1 hd hdis
          have d7 : RowAt 3 0 [] 7 vs (F 7) w1 ∧ ∀ b, F 7 b → b < w1.heap.size ∧ _ ≤ b := hd 7 (by decide)
          clear hd
          unfold puts
          simp only [List.foldl]
          change Does _ _ _ fun v w' => Near _ w1 w' F [7] ∧ RowAt 3 pos.length (I64 pos) 10 (upd vs 10 v) (Grown w1 w' F [7]) w'
          have hB1 := Nat.le_trans hNc hb1.size
          obtain ⟨A7, c7, e7, o7, h7⟩ := d7.1
          rw [e7]
          obtain ⟨v', w', hrun, h2, h3, h4⟩ := run_append_rd (P := Tryz.prog) (c := cp) el_i 61 o7 (ri_rd (hrd.below kept_RI1 (hbW.trans hb1))) (one_I64 pos) (by omega) (Nat.zero_le _)
          refine does_append _ _ rfl rfl rfl hrun ⟨near_row h3 hB1 (fun q e => h7 q e) (fun q hq => (d7.2 q hq).2), ?_⟩
          obtain ⟨A8, c8, rfl, -⟩ := own_form h2
          rw [Nat.zero_add, List.nil_append] at h2
          rw [Nat.zero_add] at h4 ⊢
          exact ⟨A8, c8, upd_self _ _ _, h2, fun g e => by
            rcases h4 with h | h
            · exact .inr ⟨7, List.mem_singleton.2 rfl, h7 g (h ▸ e)⟩
            · rw [h] at e
              have eg := Option.some.inj e
              exact .inl ⟨by omega, (h2.lt g (by rw [h, eg])).2⟩⟩
        · refine task_mk [] rfl (by kernel_rfl) ?_
          intro w1 vs F hb1 hd hdis
          clear hd
          unfold puts
          simp only [List.foldl]
          change Does _ _ _ fun v w' => Near _ w1 w' F [] ∧ RowAt 22 nv (U64 vals) 13 (upd vs 13 v) (Grown w1 w' F []) w'
          have hB1 := Nat.le_trans hNc hb1.size
          refine does_call (by go_simp <;> rfl) (cp_any Av nv cv vals w1 (HRV.out _ (below_chain hb0 (hbW.trans hb1))) (by omega)) ?_
          rintro e w2 ⟨v, rfl, ho, hb2⟩
          exact ⟨_, rfl, near_below hb2 hB1 _ _, row_of ho⟩
        · refine task_mk [(some 55, 1), (some 60, 6), (some 64, 10), (some 67, 13)] rfl (by kernel_rfl) ?_
          intro w1 vs F hb1 hd hdis
          have d1 : ValAt (fun _ => .agg #[.int .u64 (L.p : Int), .int .i64 (L.block : Int), .int .i64 (L.queries : Int), .int .i64 (L.k : Int), .int .i64 (L.n : Int), .int .i64 (L.secret : Int), .int .i64 (L.rows : Int), .int .i64 (L.a : Int), .int .i64 (L.b : Int), .int .i64 (L.b : Int), .int .i64 (L.b : Int)]) 1 vs (F 1) w1 ∧ ∀ b, F 1 b → b < w1.heap.size ∧ _ ≤ b := hd 1 (by decide)
          have d6 : RowAt 22 n1 (U64 mi) 6 vs (F 6) w1 ∧ ∀ b, F 6 b → b < w1.heap.size ∧ _ ≤ b := hd 6 (by decide)
          have d10 : RowAt 3 pos.length (I64 pos) 10 vs (F 10) w1 ∧ ∀ b, F 10 b → b < w1.heap.size ∧ _ ≤ b := hd 10 (by decide)
          have d13 : RowAt 22 nv (U64 vals) 13 vs (F 13) w1 ∧ ∀ b, F 13 b → b < w1.heap.size ∧ _ ≤ b := hd 13 (by decide)
          clear hd
          unfold puts
          simp only [List.foldl]
          change Does _ _ _ fun v w' => Near _ w1 w' F [] ∧ BlkAt 22 (fun _ => fillC L.queries fun i => MR.getD i 0) (fun g => .tuple #[.slice (some ⟨g, 0, none⟩) L.queries L.queries, .int .i64 0]) 14 (upd vs 14 v) (Grown w1 w' F []) w'
          have hB1 := Nat.le_trans hNc hb1.size
          have e1 : vs 1 = _ := d1.1
          obtain ⟨A6, c6, e6, o6, -⟩ := d6.1
          obtain ⟨A8, c8, e8, o8, -⟩ := d10.1
          obtain ⟨A9, c9, e9, o9, -⟩ := d13.1
          rw [e1, e6, e8, e9]
          refine does_call (by go_simp <;> rfl) (HPM1.out A6 c6 A8 c8 A9 c9 w1 (lw_own o6 ltm.out) (own_ri o8 HRR.out) (lw_own o9 HVR.out)) ?_
          rintro e w2 ⟨g, rfl, hg, kg, hb2⟩
          exact ⟨_, rfl, near_below hb2 hB1 _ _, blk_of kg hg⟩
        · refine task_mk [(some 68, 14)] rfl (by kernel_rfl) ?_
          intro w1 vs F hb1 hd hdis
          have d14 : BlkAt 22 (fun _ => fillC L.queries fun i => MR.getD i 0) (fun g => .tuple #[.slice (some ⟨g, 0, none⟩) L.queries L.queries, .int .i64 0]) 14 vs (F 14) w1 ∧ ∀ b, F 14 b → b < w1.heap.size ∧ _ ≤ b := hd 14 (by decide)
          clear hd
          unfold puts
          simp only [List.foldl]
          change Does _ _ _ fun v w' => Near _ w1 w' F [] ∧ TupAt (fun vs => vs 14) (.int .i64 0) 15 (upd vs 15 v) (Grown w1 w' F []) w'
          obtain ⟨g14, e14, -⟩ := d14.1
          exact does_val (v := vs 14) (w' := w1) (by rw [e14]; go_simp <;> rfl) ⟨near_same _ _ _ _, rfl, _, e14⟩
        · refine task_mk [(some 53, 15)] rfl (by kernel_rfl) ?_
          intro w1 vs F hb1 hd hdis
          have d15 : TupAt (fun vs => vs 14) (.int .i64 0) 15 vs (F 15) w1 ∧ ∀ b, F 15 b → b < w1.heap.size ∧ _ ≤ b := hd 15 (by decide)
          clear hd
          unfold puts
          simp only [List.foldl]
          change Does _ _ _ fun v w' => Near _ w1 w' F [] ∧ ValAt (fun vs => tup0 (vs 15)) 16 (upd vs 16 v) (Grown w1 w' F []) w'
          obtain ⟨-, a15, e15⟩ := d15.1
          exact does_val (v := tup0 (vs 15)) (w' := w1) (by rw [e15]; go_simp <;> rfl) ⟨near_same _ _ _ _, rfl⟩
        · refine task_mk [(some 53, 15)] rfl (by kernel_rfl) ?_
          intro w1 vs F hb1 hd hdis
          have d15 : TupAt (fun vs => vs 14) (.int .i64 0) 15 vs (F 15) w1 ∧ ∀ b, F 15 b → b < w1.heap.size ∧ _ ≤ b := hd 15 (by decide)
          clear hd
          unfold puts
          simp only [List.foldl]
          change Does _ _ _ fun v w' => Near _ w1 w' F [] ∧ ValAt (fun _ => .int .i64 0) 17 (upd vs 17 v) (Grown w1 w' F []) w'
          obtain ⟨-, a15, e15⟩ := d15.1
          exact does_val (v := .int .i64 0) (w' := w1) (by rw [e15]; go_simp <;> rfl) ⟨near_same _ _ _ _, rfl⟩
        · refine task_mk [(some 69, 16)] rfl (by kernel_rfl) ?_
          intro w1 vs F hb1 hd hdis
          have d16 : ValAt (fun vs => tup0 (vs 15)) 16 vs (F 16) w1 ∧ ∀ b, F 16 b → b < w1.heap.size ∧ _ ≤ b := hd 16 (by decide)
          clear hd
          unfold puts
          simp only [List.foldl]
          change Does _ _ _ fun v w' => Near _ w1 w' F [] ∧ ValAt (fun vs => vs 16) 18 (upd vs 18 v) (Grown w1 w' F []) w'
          exact does_val (v := vs 16) (w' := w1) (by go_simp <;> rfl) ⟨near_same _ _ _ _, rfl⟩
      intro wf vs F hbf hf hdis
      have f1 : ValAt (fun _ => .agg #[.int .u64 (L.p : Int), .int .i64 (L.block : Int), .int .i64 (L.queries : Int), .int .i64 (L.k : Int), .int .i64 (L.n : Int), .int .i64 (L.secret : Int), .int .i64 (L.rows : Int), .int .i64 (L.a : Int), .int .i64 (L.b : Int), .int .i64 (L.b : Int), .int .i64 (L.b : Int)]) 1 vs (F 1) wf ∧ ∀ b, F 1 b → b < wf.heap.size ∧ _ ≤ b := hf _ (.head _) (by decide)
      have f6 : RowAt 22 n1 (U64 mi) 6 vs (F 6) wf ∧ ∀ b, F 6 b → b < wf.heap.size ∧ _ ≤ b := hf _ (.tail _ (.head _)) (by decide)
      have f10 : RowAt 3 pos.length (I64 pos) 10 vs (F 10) wf ∧ ∀ b, F 10 b → b < wf.heap.size ∧ _ ≤ b := hf _ (.tail _ (.tail _ (.tail _ (.head _)))) (by decide)
      have f13 : RowAt 22 nv (U64 vals) 13 vs (F 13) wf ∧ ∀ b, F 13 b → b < wf.heap.size ∧ _ ≤ b := hf _ (.tail _ (.tail _ (.tail _ (.tail _ (.head _))))) (by decide)
      have f14 : BlkAt 22 (fun _ => fillC L.queries fun i => MR.getD i 0) (fun g => .tuple #[.slice (some ⟨g, 0, none⟩) L.queries L.queries, .int .i64 0]) 14 vs (F 14) wf ∧ ∀ b, F 14 b → b < wf.heap.size ∧ _ ≤ b := hf _ (.tail _ (.tail _ (.tail _ (.tail _ (.tail _ (.head _)))))) (by decide)
      have f15 : TupAt (fun vs => vs 14) (.int .i64 0) 15 vs (F 15) wf ∧ ∀ b, F 15 b → b < wf.heap.size ∧ _ ≤ b := hf _ (.tail _ (.tail _ (.tail _ (.tail _ (.tail _ (.tail _ (.head _))))))) (by decide)
      have f16 : ValAt (fun vs => tup0 (vs 15)) 16 vs (F 16) wf ∧ ∀ b, F 16 b → b < wf.heap.size ∧ _ ≤ b := hf _ (.tail _ (.tail _ (.tail _ (.tail _ (.tail _ (.tail _ (.tail _ (.head _)))))))) (by decide)
      have f17 : ValAt (fun _ => .int .i64 0) 17 vs (F 17) wf ∧ ∀ b, F 17 b → b < wf.heap.size ∧ _ ≤ b := hf _ (.tail _ (.tail _ (.tail _ (.tail _ (.tail _ (.tail _ (.tail _ (.tail _ (.head _))))))))) (by decide)
      have f18 : ValAt (fun vs => vs 16) 18 vs (F 18) wf ∧ ∀ b, F 18 b → b < wf.heap.size ∧ _ ≤ b := hf _ (.tail _ (.tail _ (.tail _ (.tail _ (.tail _ (.tail _ (.tail _ (.tail _ (.tail _ (.head _)))))))))) (by decide)
      clear hf
      unfold puts
      simp only [List.foldl]
      have e1 : vs 1 = .agg #[.int .u64 (L.p : Int), .int .i64 (L.block : Int), .int .i64 (L.queries : Int), .int .i64 (L.k : Int), .int .i64 (L.n : Int), .int .i64 (L.secret : Int), .int .i64 (L.rows : Int), .int .i64 (L.a : Int), .int .i64 (L.b : Int), .int .i64 (L.b : Int), .int .i64 (L.b : Int)] := f1.1
      obtain ⟨⟨A6, c6, e6, o6, h6⟩, b6⟩ := f6
      obtain ⟨⟨A10, c10, e10, o10, h10⟩, b10⟩ := f10
      obtain ⟨⟨A13, c13, e13, o13, h13⟩, b13⟩ := f13
      obtain ⟨⟨g14, e14, h14, k14⟩, b14⟩ := f14
      have y14 := (b14 _ h14).2
      have e15 : vs 15 = vs 14 := f15.1.1
      have e16 : vs 16 = tup0 (vs 15) := f16.1
      have e17 : vs 17 = .int .i64 0 := f17.1
      have e18 : vs 18 = vs 16 := f18.1
      simp only [e14] at e15
      simp only [e15] at e16
      simp only [e16] at e18
      simp only [e1, e6, e10, e13, e14, e15, e16, e17, e18]
      clear f1 b14 f15 f16 f17 f18 e1 e6 e10 e13 e14 e15 e16 e17 e18 h14
      try dsimp only [mkS]
      try dsimp only [mkP]
      clear hdis
      simp only [tup0_mk]
      repeat (first | (refine wpO_skip (from_moves w4.heap.size) rfl rfl (fun _ _ _ h => h) ?_ ; simp only [Act.put, List.setIfInBounds_toArray, List.set_cons_zero, List.set_cons_succ]) | (refine wpO_light (v := ?_) (from_moves w4.heap.size) rfl rfl (fun _ _ _ h => h) ?_ ?_ ; rotate_left ; (· (intro w' hR ; (first | have hcells := from_cellsD ((from_moves w4.heap.size).trans _ _ _ hacc hR) | skip) ; go_simp ; try with_reducible rfl)) ; simp only [Act.put, List.setIfInBounds_toArray, List.set_cons_zero, List.set_cons_succ]))
      refine wpO_done ?_
      have hb5 := hbW.trans hbf
      replace kl := kl.below hb5 kl.lt
      replace ko := ko.below hb5 ko.lt
      replace hm := kept_RWd _ _ _ _ hb5 hm
      replace hb0 := below_chain hb0 hb5
      replace hcm := (hb5.cell (p := ⟨bm, qm + i, none⟩) hbm).trans hcm
      replace hbm := Nat.lt_of_lt_of_le hbm hb5.size
      clear hbW hbf HWc hacc hNc hb5 cl ll co lo HPM1
      try clear o6 h6
      try clear o10 h10
      try clear o13 h13
      have cl := kl.cell
      have ll := kl.lt
      have co := ko.cell
      have lo := ko.lt
      have hri := HRI.out _ hb0
      have hrv := HRV.out _ hb0
      go_upto_region 7 with fail
      refine wpO_begin (Later) [9] [0, 1, 2, 3, 4, 5, 6, 7, 8, 9, 10, 11, 12, 13, 14] (by kernel_rfl) (by kernel_rfl) ?_
      refine wpO_startK (later_moves) ?_
      intro Wc HWc hacc
      have hbW : Below wf.heap.size wf Wc := by rw [HWc.out]; exact (Below.refl _ _).drew
      replace hri := kept_RInts _ _ _ _ hbW hri
      replace hm := kept_RWd _ _ _ _ hbW hm
      replace hrv := kept_RWd _ _ _ _ hbW hrv
      repeat (first | (refine wpO_skip (later_moves) rfl rfl (fun _ _ _ h => h) ?_ ; simp only [Act.put, List.setIfInBounds_toArray, List.set_cons_zero, List.set_cons_succ]) | (refine wpO_light (v := ?_) (later_moves) rfl rfl (fun _ _ _ h => h) ?_ ?_ ; rotate_left ; (· (intro w' hR ; (first | have hcells := later_cellsD ((later_moves).trans _ _ _ hacc hR) | skip) ; go_simp ; try with_reducible rfl)) ; simp only [Act.put, List.setIfInBounds_toArray, List.set_cons_zero, List.set_cons_succ]))
      refine wpO_call (later_moves) rfl rfl rfl (fun _ => by go_simp <;> rfl) ((HRM1.out _ hm hri hrv).mono ?_)
      rintro e w7 ⟨v7, rfl, h7, hbx⟩
      refine ⟨_, rfl, hbx, ?_⟩
      replace hacc := (later_moves).trans _ _ _ hacc (hbx)
      simp only [Act.put, List.setIfInBounds_toArray, List.set_cons_zero, List.set_cons_succ]
      obtain ⟨A7, c7, rfl⟩ := rwd_form h7
      repeat (first | (refine wpO_skip (later_moves) rfl rfl (fun _ _ _ h => h) ?_ ; simp only [Act.put, List.setIfInBounds_toArray, List.set_cons_zero, List.set_cons_succ]) | (refine wpO_light (v := ?_) (later_moves) rfl rfl (fun _ _ _ h => h) ?_ ?_ ; rotate_left ; (· (intro w' hR ; (first | have hcells := later_cellsD ((later_moves).trans _ _ _ hacc hR) | skip) ; go_simp ; try with_reducible rfl)) ; simp only [Act.put, List.setIfInBounds_toArray, List.set_cons_zero, List.set_cons_succ]))
      refine wpO_done ?_
      have hb7 := below_chain hbW hbx
      replace hm := kept_RWd _ _ _ _ hbx hm
      replace kl := kl.below hb7 kl.lt
      replace ko := ko.below hb7 ko.lt
      replace k14 := k14.below hb7 k14.lt
      replace hb0 := below_chain hb0 hb7
      replace hcm := (hb7.cell (p := ⟨bm, qm + i, none⟩) hbm).trans hcm
      replace hbm := Nat.lt_of_lt_of_le hbm hb7.size
      clear hbW hbx hb7 HWc hacc cl ll co lo hri hrv
      have hra := fill_rwd k14 (fun i _ => HMX1.out i) (by simp [maxLen]; omega)
      rw [range_self HML.out] at hra
      clear k14 y14
      have HS := Lib.hid (rSame01_any _ _ _ _ _ _ _ _ _ hra h7)
      rw [decide_eq_true rfl] at HS
      go_wp2_with fail
      refine HS.out.mono ?_
      rintro e w8 ⟨rfl, hbx⟩
      replace hcm := (hbx.cell (p := ⟨bm, qm + i, none⟩) hbm).trans hcm
      replace hbm := Nat.lt_of_lt_of_le hbm hbx.size
      replace kl := kl.below hbx kl.lt
      replace ko := ko.below hbx ko.lt
      replace hra := kept_RWd _ _ _ _ hbx hra
      replace hm := kept_RWd _ _ _ _ hbx hm
      replace hb0 := below_chain hb0 hbx
      clear hbx HS h7
      have cl := kl.cell
      have ll := kl.lt
      go_upto_region 10 with fail
      refine wpO_begin (Later) [1, 6, 8] [0, 2, 3, 4, 5, 7, 1, 6, 8, 9] (by kernel_rfl) (by kernel_rfl) ?_
      refine wpO_startK (later_moves) ?_
      intro Wc HWc hacc
      have hbW : Below w8.heap.size w8 Wc := by rw [HWc.out]; exact (Below.refl _ _).drew
      replace hm := kept_RWd _ _ _ _ hbW hm
      replace hra := kept_RWd _ _ _ _ hbW hra
      repeat (first | (refine wpO_skip (later_moves) rfl rfl (fun _ _ _ h => h) ?_ ; simp only [Act.put, List.setIfInBounds_toArray, List.set_cons_zero, List.set_cons_succ]) | (refine wpO_light (v := ?_) (later_moves) rfl rfl (fun _ _ _ h => h) ?_ ?_ ; rotate_left ; (· (intro w' hR ; (first | have hcells := later_cellsD ((later_moves).trans _ _ _ hacc hR) | skip) ; go_simp ; try with_reducible rfl)) ; simp only [Act.put, List.setIfInBounds_toArray, List.set_cons_zero, List.set_cons_succ]))
      refine wpO_call (later_moves) rfl rfl rfl (fun _ => by go_simp <;> rfl) ((HO.out _).mono ?_)
      rintro e w9 ⟨rfl, hb9⟩
      refine ⟨_, rfl, hb9, ?_⟩
      replace hacc := (later_moves).trans _ _ _ hacc (hb9)
      simp only [Act.put, List.setIfInBounds_toArray, List.set_cons_zero, List.set_cons_succ]
      replace hm := kept_RWd _ _ _ _ hb9 hm
      replace hra := kept_RWd _ _ _ _ hb9 hra
      repeat (first | (refine wpO_skip (later_moves) rfl rfl (fun _ _ _ h => h) ?_ ; simp only [Act.put, List.setIfInBounds_toArray, List.set_cons_zero, List.set_cons_succ]) | (refine wpO_light (v := ?_) (later_moves) rfl rfl (fun _ _ _ h => h) ?_ ?_ ; rotate_left ; (· (intro w' hR ; (first | have hcells := later_cellsD ((later_moves).trans _ _ _ hacc hR) | skip) ; go_simp ; try with_reducible rfl)) ; simp only [Act.put, List.setIfInBounds_toArray, List.set_cons_zero, List.set_cons_succ]))
      refine wpO_call (later_moves) rfl rfl rfl (fun _ => by go_simp <;> rfl) ((cp_any A1 n1 c1 mi _ hm (by omega)).mono ?_)
      rintro e wa ⟨va, rfl, ho, hba⟩
      refine ⟨_, rfl, hba, ?_⟩
      replace hacc := (later_moves).trans _ _ _ hacc (hba)
      simp only [Act.put, List.setIfInBounds_toArray, List.set_cons_zero, List.set_cons_succ]
      obtain ⟨Aa, ca, rfl, -⟩ := own_form ho
      have hcp := lw_own ho ltm.out
      replace hra := kept_RWd _ _ _ _ hba hra
      repeat (first | (refine wpO_skip (later_moves) rfl rfl (fun _ _ _ h => h) ?_ ; simp only [Act.put, List.setIfInBounds_toArray, List.set_cons_zero, List.set_cons_succ]) | (refine wpO_light (v := ?_) (later_moves) rfl rfl (fun _ _ _ h => h) ?_ ?_ ; rotate_left ; (· (intro w' hR ; (first | have hcells := later_cellsD ((later_moves).trans _ _ _ hacc hR) | skip) ; go_simp ; try with_reducible rfl)) ; simp only [Act.put, List.setIfInBounds_toArray, List.set_cons_zero, List.set_cons_succ]))
      refine wpO_call (later_moves) rfl rfl rfl (fun _ => by go_simp <;> rfl) ((HRow1.out _ _ _ _ _ hcp hra).mono ?_)
      rintro e wb ⟨gr, rfl, -, kr, hbb⟩
      refine ⟨_, rfl, hbb, ?_⟩
      replace hacc := (later_moves).trans _ _ _ hacc (hbb)
      simp only [Act.put, List.setIfInBounds_toArray, List.set_cons_zero, List.set_cons_succ]
      repeat (first | (refine wpO_skip (later_moves) rfl rfl (fun _ _ _ h => h) ?_ ; simp only [Act.put, List.setIfInBounds_toArray, List.set_cons_zero, List.set_cons_succ]) | (refine wpO_light (v := ?_) (later_moves) rfl rfl (fun _ _ _ h => h) ?_ ?_ ; rotate_left ; (· (intro w' hR ; (first | have hcells := later_cellsD ((later_moves).trans _ _ _ hacc hR) | skip) ; go_simp ; try with_reducible rfl)) ; simp only [Act.put, List.setIfInBounds_toArray, List.set_cons_zero, List.set_cons_succ]))
      refine wpO_done ?_
      have hbz := below_chain (below_chain (below_chain hbW hb9) hba) hbb
      replace kl := kl.below hbz kl.lt
      replace ko := ko.below hbz ko.lt
      replace hb0 := below_chain hb0 hbz
      clear hbW hb9 hba hbb hbz HWc hacc cl ll hcp ho hra hm hcm hbm HRow1
      have hrw := fill_rwd kr (fun k _ => HLT1.out k) (by simp [maxLen]; omega)
      rw [HRL.out] at hrw
      clear kr
      have cl := kl.cell
      have ll := kl.lt
      go_wp2_with fail
      refine (HPt.out _).mono ?_
      rintro e wc ⟨v1, v2, rfl, -, hpb, hbx⟩
      replace kl := kl.below hbx kl.lt
      replace ko := ko.below hbx ko.lt
      replace hrw := kept_RWd _ _ _ _ hbx hrw
      replace hb0 := below_chain hb0 hbx
      clear hbx cl ll
      obtain ⟨D, hD⟩ : ∃ D, D = (List.range L.n).map (domR L.p (rowOf L.p).1 L.n) := ⟨_, rfl⟩
      have HDL := Lib.hid (show D.length = L.n by rw [hD, List.length_map, List.length_range])
      have HDG := Lib.hid (show ∀ z, z < L.n → D.getD z 0 = domR L.p (rowOf L.p).1 L.n z from fun z hz => by rw [hD, range_get, if_pos hz])
      rw [← hD] at hpb
      obtain ⟨Ad, cd, rfl⟩ := rwd_form hpb
      have hqr := (lw_at hpb).2.2.2.2
      clear hD hpb
      have co := ko.cell
      go_wp2_with fail
      go_loopw [128] (fun y wr => ∃ k : Nat, k ≤ pos.length ∧ y = .int .i64 (k : Int) ∧ Below wc.heap.size wc wr) (fun y _ => pos.length - (intOf y).toNat)
      case atStart => exact ⟨0, Nat.zero_le _, rfl, Below.refl _ _⟩
      case round =>
        obtain ⟨k, hk, rfl, hb⟩ := hrel
        by_cases hlt : k < pos.length
        · have q2 : (k : Int) < (pos.length : Int) := by omega
          have q3 : (0 : Int) ≤ (k : Int) := by omega
          have q4 : (k : Int) < (nv : Int) := by have := HVL.out; have := HVQ.out; have := HQQ.out; omega
          have hbo := below_chain hb0 hb
          obtain ⟨hz0, hz1, -⟩ := HPA.out k hlt
          obtain ⟨z, hz⟩ : ∃ z : Nat, pos.getD k 0 = (z : Int) := ⟨_, (Int.toNat_of_nonneg hz0).symm⟩
          obtain ⟨Ar, nr, cr, her, hlr, -, -, hrr⟩ := HRI.out _ hbo
          simp at her
          obtain ⟨rfl, rfl, rfl⟩ := her
          obtain ⟨b, q, rfl, hbl, hc, -, -⟩ := ri_get hrr hlt
          rw [hz] at hc hz1
          have hzn : z < L.n := by omega
          have hzd : z < D.length := by rw [HDL.out]; exact hzn
          obtain ⟨b2, q2', rfl, hbl2, hc2⟩ := lw_get (hqr.below hb) hzd
          have hrv := HRV.out _ hbo
          have hvr := (lw_at hrv).2.2.2.2
          obtain ⟨b3, q3', rfl, hbl3, hc3⟩ := lw_get (l := vals) (by rw [← HVL.out]; exact hvr) (j := k) (by rw [HVQ.out, ← HQQ.out]; exact hlt)
          have ez : evalP L.p RW (D.getD z 0) = vals.getD k 0 := by rw [HDG.out z hzn, ← HMV2.out k hlt]; unfold mxV; rw [hz]; rfl
          have hrw2 := kept_RWd _ _ _ _ hb hrw
          obtain ⟨x', hx'⟩ : ∃ x', x' = D.getD z 0 := ⟨_, rfl⟩
          obtain ⟨v, hv⟩ : ∃ v, v = vals.getD k 0 := ⟨_, rfl⟩
          rw [← hx', ← hv] at ez
          rw [← hx'] at hc2
          rw [← hv] at hc3
          have HE1 := Lib.hid (fun w' (hb' : Below wr.heap.size wr w') => by have := HEv.out _ _ _ x' RW w' (kept_RWd _ _ _ _ hb' hrw2); rw [ez] at this; exact this)
          have u1 : (0 : Int) ≤ (z : Int) := by omega
          have u2 : (z : Int) < (D.length : Int) := by omega
          have kl1 := kl.below hb kl.lt
          have ko1 := ko.below hb ko.lt
          have cl := kl1.cell
          have ll := kl1.lt
          have co := ko1.cell
          have lo := ko1.lt
          clear hx' hv ez hz hz0 hz1 hzn hzd
          go_upto_region 15 with fail
          refine wpO_begin (Later) [7] [0, 1, 2, 3, 4, 5, 6, 8, 9, 10, 11, 12, 7, 13] (by kernel_rfl) (by kernel_rfl) ?_
          refine wpO_startK (later_moves) ?_
          intro Wc HWc hacc
          have hbW : Below wr.heap.size wr Wc := by rw [HWc.out]; exact (Below.refl _ _).drew
          repeat (first | (refine wpO_skip (later_moves) rfl rfl (fun _ _ _ h => h) ?_ ; simp only [Act.put, List.setIfInBounds_toArray, List.set_cons_zero, List.set_cons_succ]) | (refine wpO_light (v := ?_) (later_moves) rfl rfl (fun _ _ _ h => h) ?_ ?_ ; rotate_left ; (· (intro w' hR ; (first | have hcells := later_cellsD ((later_moves).trans _ _ _ hacc hR) | skip) ; go_simp ; try with_reducible rfl)) ; simp only [Act.put, List.setIfInBounds_toArray, List.set_cons_zero, List.set_cons_succ]))
          refine wpO_call (later_moves) rfl rfl rfl (fun _ => by go_simp <;> rfl) ((HE1.out _ hbW).mono ?_)
          rintro e wd ⟨rfl, hbx⟩
          refine ⟨_, rfl, hbx, ?_⟩
          replace hacc := (later_moves).trans _ _ _ hacc (hbx)
          simp only [Act.put, List.setIfInBounds_toArray, List.set_cons_zero, List.set_cons_succ]
          repeat (first | (refine wpO_skip (later_moves) rfl rfl (fun _ _ _ h => h) ?_ ; simp only [Act.put, List.setIfInBounds_toArray, List.set_cons_zero, List.set_cons_succ]) | (refine wpO_light (v := ?_) (later_moves) rfl rfl (fun _ _ _ h => h) ?_ ?_ ; rotate_left ; (· (intro w' hR ; (first | have hcells := later_cellsD ((later_moves).trans _ _ _ hacc hR) | skip) ; go_simp ; try with_reducible rfl)) ; simp only [Act.put, List.setIfInBounds_toArray, List.set_cons_zero, List.set_cons_succ]))
          refine wpO_done ?_
          have hbz := below_chain (below_chain hb hbW) hbx
          clear hacc HWc hbx hbW cl ll co lo hc hc2 hc3 hbl hbl2 hbl3
          go_wp2_with fail
          go_roundw
          case rel => exact ⟨k + 1, by omega, by go_num, hbz⟩
          case measure => simp [intOf]; omega
        · obtain rfl : k = pos.length := by omega
          have q2 : ¬ ((pos.length : Int) < (pos.length : Int)) := by omega
          go_wp2
          go_ret
          exact ⟨rfl, below_chain hb0 hb⟩
end Go.Proofs.YtefnagiffllhbaaGreat

/- MaskMasksProof -/
namespace Go.Proofs.YtefnagiffllhbaaGreat.maskMasks
open Go.ChangeShapes Go.WideShapes Go.ChangeAt Go.RowKit
open Go.ChangeMaps (open_string shut_string)
set_option linter.unusedVariables false

theorem own : ownKnob Tryz.prog.godebug = none := by kernel_rfl
theorem laidOut : laidOutB Tryz.prog = true := by kernel_rfl

set_option maxRecDepth 100000 in
theorem lifted (os : Os) (started : os.Started) (H : Type) (enc : TypeId × Value → H) :
    ReturnsInHanded {} Tryz.checked os 6 .any (Rows.maskMasksSpec.pre6 enc Tryz.prog Tryz.f6 Rows.maskMasksRow.domain false) (Rows.maskMasksSpec.post enc Tryz.prog Tryz.f6 false true false false) := by
  refine returnsInHanded_of_change (C := Tryz.checked) own started (by kernel_rfl) Tryz.func6
    (ChangeSpec.witness6 (enc := enc) (C := Tryz.checked) false ⟨#[], #[.agg #[.int .u64 0, .int .i64 0, .int .i64 0, .slice none 0 0, .int .i64 0, .int .i64 0, .int .i64 0, .slice none 0 0], .agg #[.int .u16 0, .slice none 0 0, .slice none 0 0]], []⟩ 12 (by kernel_rfl) (by kernel_rfl) (by kernel_rfl) (by kernel_rfl)) ?_
  intro W base args ds gs before hval0 hW hcnd _
  have hval : ∀ (j : Nat) t v, Tryz.f6.params[j]? = some t → args[j]? = some v → Value.okWide Tryz.prog W .any base t v := hval0
  have hW' := hW
  obtain ⟨p, q, hA0, hV, rfl, hfz, hnd⟩ := hW
  have hA : DataW.TrodAll enc Tryz.prog W 0 (fun _ => true) true Tryz.f6.params.toList args.toList ds p := hA0
  rw [Tryz.params6] at hA hval
  obtain ⟨v0, vs0, d0, ds0, p0, q0, hargs, rfl, rfl, h0, r0⟩ := trodAll_cons hA
  obtain ⟨v1, vs1, d1, ds1, p1, q1, rfl, rfl, rfl, h1, r1⟩ := trodAll_cons r0
  obtain ⟨rfl, rfl, rfl⟩ := trodAll_nil r1
  obtain rfl : args = #[v0, v1] := by cases args; simp_all
  obtain ⟨rfl, rfl⟩ := trodVars_none hV
  have lt0 : ∀ x ∈ p0, x.block < W.heap.size := by obtain ⟨m, hm⟩ := h0; exact DataW.trod_lt m _ _ _ hm
  have k0 := h0
  have lt1 : ∀ x ∈ p1, x.block < W.heap.size := by obtain ⟨m, hm⟩ := h1; exact DataW.trod_lt m _ _ _ hm
  have k1 := h1
  obtain ⟨cs0, rfl, z0⟩ := okWide_struct Tryz.underlying30 (hval 0 30 v0 rfl rfl)
  obtain ⟨cs1, rfl, z1⟩ := okWide_struct Tryz.underlying63 (hval 1 63 v1 rfl rfl)
  clear hA0 hval0
  refine (maskMasks_walk W cs0 (Fits.of_trod k0) cs1 (Fits.of_trod k1)).mono fun e W' ⟨he, bel⟩ => ?_
  subst he
  exact ⟨_, rfl, _, _, _, [], _, [], hW', trodAll_mk1 (shut_bool Tryz.underlying4 _), (trodAll_cons_mk (Below.trod laidOut (by kernel_rfl) (of_decide_eq_true (by kernel_rfl)) k0 bel lt0) (trodAll_cons_mk (Below.trod laidOut (by kernel_rfl) (of_decide_eq_true (by kernel_rfl)) k1 bel lt1) trodAll_mk0)), rfl, bel.frame _, fun h => by cases h⟩

theorem over : Rows.maskMasksRow.holds Tryz.pinned (OpenSpec.ofChange Rows.maskMasksSpec) :=
  OpenClaim.holds_of_wide 6 Tryz.f6 rfl rfl rfl rfl rfl rfl rfl ⟨rfl, rfl, rfl, rfl, rfl⟩ rfl rfl rfl rfl rfl (by kernel_rfl) Tryz.func6 (by kernel_rfl)
    (of_decide_eq_true (by kernel_rfl)) (by unfold Func.isWrapper; first | (rw [if_pos (by decide +kernel)]; kernel_rfl) | (rw [if_neg (by decide +kernel)]; exact ⟨rfl, rfl⟩))
    (fun os started H enc _ => lifted os started H enc)

theorem proved : Rows.MaskMasksSaid := over
#print axioms proved
end Go.Proofs.YtefnagiffllhbaaGreat.maskMasks
