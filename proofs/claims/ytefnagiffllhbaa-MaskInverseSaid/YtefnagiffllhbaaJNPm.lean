/-
  mask.Masks of the program.
-/
import Derived.Test.YtefnagiffllhbaaJN24
import Derived.Test.YtefnagiffllhbaaJN23
import Derived.Test.YtefnagiffllhbaaJN10

/- PlM -/
namespace Go.Proofs.Ytefnagiffllhbaa
open Go.RowKit

theorem cutN_out (f : Nat → Nat) : ∀ k i, cutN f k ≤ i → i < k → f i = 0
  | 0, i, _, h => absurd h (Nat.not_lt_zero _)
  | k + 1, i, h1, h2 => by
    rw [cutN] at h1
    by_cases h : f k = 0
    · rw [if_pos h] at h1
      by_cases e : i = k
      · rw [e]; exact h
      · exact cutN_out f k i h1 (by omega)
    · rw [if_neg h] at h1
      omega
/-- What the program compares a position with. -/
def prevI (pos : List Int) (i : Nat) : Int := if i = 0 then -1 else pos.getD (i - 1) 0
theorem prog_bad {N : Nat} {pos : List Int} {i : Nat} (hprev : ∀ k, k < i → posBad N pos k = false) : (decide (pos.getD i 0 ≤ prevI pos i) || decide ((N : Int) ≤ pos.getD i 0)) = posBad N pos i := by
  unfold prevI posBad
  rcases Nat.eq_zero_or_pos i with h | h
  · subst h
    rw [if_pos rfl]
    have : decide (pos.getD 0 0 ≤ -1) = decide (pos.getD 0 0 < 0) := by
      by_cases h : pos.getD 0 0 < 0
      · rw [decide_eq_true h, decide_eq_true (show pos.getD 0 0 ≤ -1 by omega)]
      · rw [decide_eq_false h, decide_eq_false (show ¬ pos.getD 0 0 ≤ -1 by omega)]
    rw [this]
    simp
  · rw [if_neg (by omega)]
    have h1 := hprev (i - 1) (by omega)
    unfold posBad at h1
    have h2 : 0 ≤ pos.getD (i - 1) 0 := by
      simp only [Bool.or_eq_false_iff, decide_eq_false_iff_not] at h1
      omega
    rw [decide_eq_true h, Bool.true_and]
    by_cases a1 : pos.getD i 0 ≤ pos.getD (i - 1) 0
    · rw [decide_eq_true a1]; simp
    · rw [decide_eq_false a1, decide_eq_false (show ¬ pos.getD i 0 < 0 by omega)]; simp
/-- A copy into a longer block of zeros. -/
theorem copy_fill {Q k : Nat} {F : Nat → Nat} (hk : k ≤ Q) (h0 : ∀ i, k ≤ i → i < Q → F i = 0) : ((fillC Q fun _ => 0).toList.take 0 ++ U64 ((List.range k).map F) ++ (fillC Q fun _ => 0).toList.drop (0 + (U64 ((List.range k).map F)).length)).toArray = fillC Q F := by
  rw [fill_U64, fill_U64]
  congr 1
  apply List.ext_getElem
  · simp [U64]
    omega
  · intro i h1 h2
    simp [U64] at h2
    by_cases h : i < k
    · rw [List.getElem_append_left (by simp [U64]; exact h)]
      simp [U64]
    · rw [List.getElem_append_right (by simp [U64]; omega)]
      simp [U64]
      rw [h0 i (by omega) h2]
      rfl

theorem copy_run {Q n k : Nat} (F : Nat → Nat) (w : World) (g : Nat) (kg : Blk w g 22 (fillC n F)) (hk : k ≤ n) (hn : n = Q) (h0 : ∀ i, k ≤ i → i < Q → F i = 0) (ty : TypeId) :
    (Builtin.copy_ #[28, 28] ty #[.slice (some ⟨w.heap.size, 0, none⟩) Q Q, .slice (some ⟨g, 0, none⟩) k n]).run Try.prog (w.alloc (.cells (fillC Q fun _ => 0) 22)) = .ok (goInt k) ((w.alloc (.cells (fillC Q fun _ => 0) 22)).setRow w.heap.size (fillC Q F)) := by
  subst hn
  have hal := (Below.refl w.heap.size w).alloc (Nat.le_refl _) (.cells (fillC n fun _ => 0) 22)
  have kg' := kg.below hal kg.lt
  have hlen : (U64 ((List.range k).map F)).length = k := by simp [U64]
  have hsz : (Try.prog.info? 22).map (·.size) = some 1 := by
    obtain ⟨-, ⟨i, hi, -, hs, -⟩, -, -⟩ := el_w
    rw [hi]
    simp [hs]
  have h := run_copy_row (P := Try.prog) (w.alloc (.cells (fillC n fun _ => 0) 22)) 28 28 ty 22 w.heap.size 0 n n ⟨g, 0, none⟩ k n (fillC n fun _ => 0) 22 (U64 ((List.range k).map F)) Try.underlying28 hsz (Blk.new w _ _) (by rw [hlen]; show k = min k n; omega) (fun j v hj => by
    have hjk : j < k := by
      have := (List.getElem?_eq_some_iff.1 hj).1
      rw [hlen] at this
      exact this
    have hc := kg'.cell j
    rw [fill_get _ (show j < n by omega)] at hc
    simp [U64, hjk] at hj
    subst hj
    rw [show (⟨g, 0, none⟩ : Addr).add j = ⟨g, j, none⟩ by simp [Addr.add]; try omega]
    exact hc) (by rw [hlen]; simp [fillC]; omega) (fun v hv => by
    obtain ⟨x, -, rfl⟩ := List.mem_map.1 hv
    rfl)
  rw [h, copy_fill hk h0, hlen]

set_option maxRecDepth 100000 in
set_option maxHeartbeats 6000000 in
theorem pMasks_any (L : LayR) (A B C : Option Addr) (n c m d k e : Nat) (msg vals : List Nat) (pos : List Int) (w : World) (hL : LayOk L) (hm : RWd w [.slice A n c] msg) (hn : n = L.block) (hpos : RInts w [.slice B m d] pos) (hv : RWd w [.slice C k e] vals) :
    Calls Try.prog 20 #[.agg (layCs L), .slice A n c, .slice B m d, .slice C k e] w fun e' w' => Below w.heap.size w w' ∧ ((masksOk L pos vals = false ∧ e' = .returned (.tuple #[.slice none 0 0, .int .i64 1])) ∨ (masksOk L pos vals = true ∧ ∃ g, e' = .returned (.tuple #[.slice (some ⟨g, 0, none⟩) L.queries L.queries, .int .i64 0]) ∧ w.heap.size ≤ g ∧ Blk w' g 22 (fillC L.queries fun i => (masksR L msg pos vals).getD i 0))) := by
  obtain ⟨A', n', c', he, hln, hnc, hcx, hrd⟩ := hpos
  simp at he
  obtain ⟨rfl, rfl, rfl⟩ := he
  subst hln
  subst hn
  have gm := lw_max hnc hcx
  obtain ⟨hlen, j, hj⟩ := layLen hL
  have hmsg := (lw_at hm).1
  have hq2 := hL.q2
  have HOK := Lib.hid (show masksOk L pos vals = (posOk L.n L.queries pos && elOk vals L.queries L.p) from rfl)
  have HEl := Lib.hid (fun w hl => elem_any C k e L.queries L.p vals w hl)
  have HI := Lib.hid (fun w hl => tInverse_any L.p A L.block c j msg w hL.p hl hlen hj)
  have HPt := Lib.hid (fun w => pPoints_any L w hL)
  have HW := Lib.hid (fun a n w hn => fPow_any L.p a n w hL.p hn)
  have HS := Lib.hid (fun a b w => fSub_any L.p a b w hL.p)
  have HDv := Lib.hid (fun a b w => fDiv_any L.p a b w hL.p)
  have HE := Lib.hid (fun A n c x l w hl => pEval_any L.p A n c x l w hL.p hl)
  have HNi := Lib.hid (fun A B m c n d xs ys w hx hy hlen hm hd => pInterpolate_any L.p A B m c n d xs ys w hL.p hx hy hlen hm hd)
  have hlog : L.block.log2 = j := by rw [hj]; exact Nat.log2_two_pow
  have HMA := Lib.hid (show (List.range L.block).map (invP L.p L.block j msg) = maP L msg by rw [← hlog]; exact maP_inv hL hmsg.symm)
  have HIX := Lib.hid (show ∀ i, invP L.p L.block j msg i < 18446744073709551616 from fun i => Nat.lt_trans (Nat.mod_lt _ (by have := okP_lt hL.p; omega)) (okP_lt hL.p).2)
  have HHE := Lib.hid (fun l x => horn_eval (p := L.p) (by have := okP_lt hL.p; omega) l x)
  have HDX := Lib.hid (fun h => mXs_diff hL (pos := pos) h)
  have HMS := Lib.hid (fun h => masks_same hL (msg := msg) (vals := vals) (pos := pos) h)
  have HPA := Lib.hid (fun (h : posOk L.n L.queries pos = true) i hi => posOk_at h (i := i) hi)
  have HPG := Lib.hid (fun h => posOk_good (N := L.n) (Q := L.queries) (l := pos) h)
  have HPB := Lib.hid (fun i hi h => posOk_bad (N := L.n) (Q := L.queries) (l := pos) (i := i) hi h)
  have HPL := Lib.hid (show posOk L.n L.queries pos = true → pos.length = L.queries from posOk_len)
  have HXL := Lib.hid (show ∀ i, mxV L pos i < 18446744073709551616 from fun i => Nat.lt_trans (domR_lt (by have := okP_lt hL.p; omega) _) (okP_lt hL.p).2)
  have HYL := Lib.hid (show ∀ i, myV L msg pos vals i < 18446744073709551616 from fun i => Nat.lt_trans (Nat.mod_lt _ (by have := okP_lt hL.p; omega)) (okP_lt hL.p).2)
  have HVQ := Lib.hid (show elOk vals L.queries L.p = true → vals.length = L.queries from fun h => by unfold elOk at h; rw [Bool.and_eq_true] at h; exact of_decide_eq_true h.1)
  have HBL := Lib.hid (show L.block < 18446744073709551616 by have := hL.b2; omega)
  have e1 : IntKind.u64.wrap (L.block : Int) = (L.block : Int) := by rw [IntKind.wrap_u64]; have := hL.b2; omega
  have HB2 := Lib.hid hL.b2
  have hb0 : Below w.heap.size w (w.alloc (.cells #[.int .u64 (L.p : Int), .int .i64 (L.block : Int), .int .i64 (L.queries : Int), .int .i64 (L.k : Int), .int .i64 (L.n : Int), .int .i64 (L.secret : Int), .int .i64 (L.rows : Int), .int .i64 (L.a : Int), .int .i64 (L.b : Int), .int .i64 (L.b : Int), .int .i64 (L.b : Int)] 41)) := (Below.refl _ _).alloc (Nat.le_refl _) _
  have kl := Blk.new w 41 #[.int .u64 (L.p : Int), .int .i64 (L.block : Int), .int .i64 (L.queries : Int), .int .i64 (L.k : Int), .int .i64 (L.n : Int), .int .i64 (L.secret : Int), .int .i64 (L.rows : Int), .int .i64 (L.a : Int), .int .i64 (L.b : Int), .int .i64 (L.b : Int), .int .i64 (L.b : Int)]
  clear hlen hj hmsg hL hlog
  obtain ⟨eo, heo⟩ : ∃ eo, eo = elOk vals L.queries L.p := ⟨_, rfl⟩
  have HEl1 : Hid (∀ w : World, RWd w [.slice C k e] vals → Calls Try.prog 32 #[.slice C k e, .int .i64 (L.queries : Int), .int .u64 (L.p : Int)] w fun e w' => e = .returned (.bool eo) ∧ Below w.heap.size w w') := Lib.hid (fun w hl => by rw [heo]; exact HEl.out w hl)
  rw [← heo] at HVQ HOK
  rw [HOK.out]
  clear heo HOK HEl
  unfold layCs fv at *
  by_cases hq : pos.length = L.queries
  rotate_left
  · have t1 : ((pos.length : Int) != (L.queries : Int)) = true := by simp; omega
    have HF := Lib.hid (show posOk L.n L.queries pos = false by
      cases hh : posOk L.n L.queries pos with
      | false => rfl
      | true => exact absurd (HPL.out hh) hq)
    clear HEl1 HI HPt HW HS HDv HE HNi HMA HIX HHE HDX HMS HPA HPG HPB HPL HXL HYL HVQ HBL hm hv
    go_enter Try.func20, Try.ntmps20
    go_upto_region 1 with fail
    generalize w.alloc _ = w1 at kl hb0 ⊢
    have cl := kl.cell
    go_wp2
    go_ret2
    exact ⟨hb0, .inl ⟨by rw [HF.out]; rfl, rfl⟩⟩
  have t1 : ((pos.length : Int) != (L.queries : Int)) = false := by simp; omega
  have HQ := Lib.hid hq
  have hp64 : pos.length ≤ 64 := by omega
  clear hq
  cases eo with
  | false =>
    clear HI HPt HW HS HDv HE HNi HMA HIX HHE HDX HMS HPA HPG HPB HPL HXL HYL HVQ HBL hm
    go_enter Try.func20, Try.ntmps20
    go_upto_region 1 with fail
    generalize w.alloc _ = w1 at kl hb0 ⊢
    have cl := kl.cell
    replace hv := kept_RWd _ _ _ _ hb0 hv
    go_wp2_with fail
    refine (HEl1.out _ hv).mono ?_
    rintro e' w2 ⟨rfl, hbx⟩
    replace kl := kl.below hbx kl.lt
    replace hb0 := below_chain hb0 hbx
    clear hbx cl
    go_wp2
    go_ret2
    exact ⟨hb0, .inl ⟨by rw [Bool.and_false], rfl⟩⟩
  | true =>
    have HVQ2 := Lib.hid (HVQ.out rfl)
    rw [Bool.and_true]
    go_enter Try.func20, Try.ntmps20
    go_upto_region 1 with fail
    generalize w.alloc _ = w1 at kl hb0 ⊢
    have cl := kl.cell
    have hv1 := kept_RWd _ _ _ _ hb0 hv
    go_wp2_with fail
    refine (HEl1.out _ hv1).mono ?_
    rintro e' w2 ⟨rfl, hbx⟩
    replace kl := kl.below hbx kl.lt
    replace hb0 := below_chain hb0 hbx
    clear hbx cl hv1 HEl1 HVQ
    have H0 := Lib.hid (show (-1 : Int) = prevI pos 0 from rfl)
    go_wp2_with fail
    go_loopw [10, 43] (fun la y wr => ∃ i : Nat, i ≤ pos.length ∧ y = .int .i64 (i : Int) ∧ la = .int .i64 (prevI pos i) ∧ Hid (∀ k, k < i → posBad L.n pos k = false) ∧ Blk wr w.heap.size 41 #[.int .u64 (L.p : Int), .int .i64 (L.block : Int), .int .i64 (L.queries : Int), .int .i64 (L.k : Int), .int .i64 (L.n : Int), .int .i64 (L.secret : Int), .int .i64 (L.rows : Int), .int .i64 (L.a : Int), .int .i64 (L.b : Int), .int .i64 (L.b : Int), .int .i64 (L.b : Int)] ∧ Below w.heap.size w wr) (fun _ y _ => pos.length - (intOf y).toNat)
    case atStart => exact ⟨0, Nat.zero_le _, rfl, rfl, Lib.hid (fun k hk => absurd hk (Nat.not_lt_zero _)), kl, hb0⟩
    case round =>
      clear kl hb0 H0
      obtain ⟨i, hi, rfl, rfl, HPV, kl, hb0⟩ := hrel
      have cl := kl.cell
      have ll := kl.lt
      by_cases hlt : i < pos.length
      · have q1 : (i : Int) < (pos.length : Int) := by omega
        have q2 : (0 : Int) ≤ (i : Int) := by omega
        obtain ⟨b, q, rfl, hbl, hc, hx1, hx2⟩ := ri_get (hrd.below kept_RI1 hb0) hlt
        have HPR := Lib.hid (prog_bad HPV.out)
        have HBD := Lib.hid (HPB.out i hlt)
        have HNX := Lib.hid (show pos.getD i 0 = prevI pos (i + 1) by unfold prevI; rw [if_neg (by omega), Nat.add_sub_cancel])
        have HST := Lib.hid (show posBad L.n pos i = false → ∀ k, k < i + 1 → posBad L.n pos k = false from fun h k hk => by
          by_cases e : k = i
          · subst e; exact h
          · exact HPV.out k (by omega))
        obtain ⟨x, hx⟩ : ∃ x, x = pos.getD i 0 := ⟨_, rfl⟩
        obtain ⟨la, hla⟩ : ∃ la, la = prevI pos i := ⟨_, rfl⟩
        rw [← hx] at hc hx1 hx2 HPR HNX
        rw [← hla] at HPR ⊢
        clear hx hla HI HPt HW HS HDv HE HNi HMA HIX HHE HDX HMS HPA HPG HPL HXL HYL HBL hm hv
        by_cases z1 : x ≤ la
        · have d1 : decide (x ≤ la) = true := decide_eq_true z1
          have HB := Lib.hid (HBD.out (by rw [← HPR.out, d1]; rfl))
          go_wp2
          go_ret2
          exact ⟨hb0, .inl ⟨HB.out, rfl⟩⟩
        have d1 : decide (x ≤ la) = false := decide_eq_false z1
        by_cases z2 : (L.n : Int) ≤ x
        · have d2 : decide ((L.n : Int) ≤ x) = true := decide_eq_true z2
          have HB := Lib.hid (HBD.out (by rw [← HPR.out, d1, d2]; rfl))
          go_wp2
          go_ret2
          exact ⟨hb0, .inl ⟨HB.out, rfl⟩⟩
        have d2 : decide ((L.n : Int) ≤ x) = false := decide_eq_false z2
        have HG := Lib.hid (HST.out (by rw [← HPR.out, d1, d2]; rfl))
        go_wp2_with fail
        go_roundw
        case rel => exact ⟨i + 1, by omega, by go_num, by rw [HNX.out], HG.out, kl, hb0⟩
        case measure => simp [intOf]; omega
      · obtain rfl : i = pos.length := by omega
        have q3 : ¬ ((pos.length : Int) < (pos.length : Int)) := by omega
        have HPO := Lib.hid (show posOk L.n L.queries pos = true by rw [HPG.out HPV.out]; exact decide_eq_true HQ.out)
        clear HPG HPB HPV HPL
        have mk := mk_words pos.length (by omega)
        have mkq := mk_words L.queries (by omega)
        go_upto_region 12 with fail
        have kf := Blk.new wr 88 #[.int .u64 (L.p : Int)]
        have hal := (Below.refl wr.heap.size wr).alloc (Nat.le_refl _) (.cells #[.int .u64 (L.p : Int)] 88)
        replace kl := kl.below hal kl.lt
        replace hb0 := below_chain hb0 hal
        generalize wr.alloc _ = w3 at kl kf hb0 ⊢
        generalize wr.heap.size = gf at kf ⊢
        clear hal cl ll
        have cl := kl.cell
        have cf := kf.cell
        have hm1 := kept_RWd _ _ _ _ hb0 hm
        go_wp2_with fail
        refine (HI.out _ hm1).mono ?_
        rintro e' w4 ⟨ga, rfl, -, ka, hbx⟩
        replace kl := kl.below hbx kl.lt
        replace kf := kf.below hbx kf.lt
        replace hb0 := below_chain hb0 hbx
        clear hbx cl cf hm1 hm HI
        have cl := kl.cell
        go_wp2_with fail
        refine (HPt.out _).mono ?_
        rintro e' w5 ⟨gp0, gp, rfl, -, kp, -, -, hbx⟩
        replace kl := kl.below hbx kl.lt
        replace kf := kf.below hbx kf.lt
        replace ka := ka.below hbx ka.lt
        replace hb0 := below_chain hb0 hbx
        clear hbx cl HPt
        go_upto_region 14 with fail
        refine wpL_begin (From w5.heap.size) [0, 1, 3, 4] 4 (by kernel_rfl) (by kernel_rfl) ?_
        refine wpL_startK (from_moves w5.heap.size) ?_
        intro Wc HWc hacc
        repeat (first | (refine wpL_skip (from_moves w5.heap.size) rfl rfl (fun _ _ _ h => h) ?_ ; simp only [Act.put, List.setIfInBounds_toArray, List.set_cons_zero, List.set_cons_succ]) | (refine wpL_light (v := ?_) (from_moves w5.heap.size) rfl rfl (fun _ _ _ h => h) ?_ ?_ ; rotate_left ; (· (intro w' hR ; (first | have hcells := from_cellsD ((from_moves w5.heap.size).trans _ _ _ hacc hR) | skip) ; go_simp ; try with_reducible rfl)) ; simp only [Act.put, List.setIfInBounds_toArray, List.set_cons_zero, List.set_cons_succ]))
        have hbW : Below w5.heap.size w5 Wc := by rw [HWc.out]; exact (Below.refl _ _).drew
        have hNc : w5.heap.size ≤ Wc.heap.size := hbW.size
        refine wpL_own (from_moves w5.heap.size) [⟨2, [], []⟩, ⟨5, [], []⟩, ⟨6, [2], []⟩] [(2, BlkAt 22 (fun _ => fillC pos.length fun _ => 0) (mkS pos.length) 2), (5, BlkAt 22 (fun _ => fillC pos.length fun _ => 0) (mkS pos.length) 5), (6, ValAt (fun vs => vs 2) 6)] [(some 74, 2), (some 77, 5), (some 18, 6)] [7] [7] (by kernel_rfl) (by kernel_rfl) (by first | exact Nat.le_refl _ | omega) (fun w1 h1 => h1) ?_ ?_ ?_
        · exact List.forall_mem_cons.2 ⟨stays_blk rfl (fun _ _ _ => rfl), List.forall_mem_cons.2 ⟨stays_blk rfl (fun _ _ _ => rfl), List.forall_mem_cons.2 ⟨stays_val rfl (fun vs us h => by simp only [h 2 (by decide)]), List.forall_mem_nil _⟩⟩⟩
        · refine List.forall_mem_cons.2 ⟨?_, List.forall_mem_cons.2 ⟨?_, List.forall_mem_cons.2 ⟨?_, List.forall_mem_nil _⟩⟩⟩
          · refine task_mk [] rfl (by kernel_rfl) ?_
            intro w1 vs F hb1 hd hdis
            clear hd
            unfold puts
            simp only [List.foldl]
            change Does _ _ _ fun v w' => Near _ w1 w' F [] ∧ BlkAt 22 (fun _ => fillC pos.length fun _ => 0) (mkS pos.length) 2 (upd vs 2 v) (Grown w1 w' F []) w'
            have hB1 := Nat.le_trans hNc hb1.size
            exact does_val (v := .slice (some ⟨w1.heap.size, 0, none⟩) pos.length pos.length) (w' := w1.alloc (.cells (fillC pos.length fun _ => 0) 22)) (by go_simp <;> rfl) ⟨near_below ((Below.refl _ _).alloc (Nat.le_refl _) _) hB1 _ _, blk_of (Blk.new _ _ _) (Nat.le_refl _)⟩
          · refine task_mk [] rfl (by kernel_rfl) ?_
            intro w1 vs F hb1 hd hdis
            clear hd
            unfold puts
            simp only [List.foldl]
            change Does _ _ _ fun v w' => Near _ w1 w' F [] ∧ BlkAt 22 (fun _ => fillC pos.length fun _ => 0) (mkS pos.length) 5 (upd vs 5 v) (Grown w1 w' F []) w'
            have hB1 := Nat.le_trans hNc hb1.size
            exact does_val (v := .slice (some ⟨w1.heap.size, 0, none⟩) pos.length pos.length) (w' := w1.alloc (.cells (fillC pos.length fun _ => 0) 22)) (by go_simp <;> rfl) ⟨near_below ((Below.refl _ _).alloc (Nat.le_refl _) _) hB1 _ _, blk_of (Blk.new _ _ _) (Nat.le_refl _)⟩
          · refine task_mk [(some 74, 2)] rfl (by kernel_rfl) ?_
            intro w1 vs F hb1 hd hdis
            have d2 : BlkAt 22 (fun _ => fillC pos.length fun _ => 0) (mkS pos.length) 2 vs (F 2) w1 ∧ ∀ b, F 2 b → b < w1.heap.size ∧ _ ≤ b := hd 2 (by decide)
            clear hd
            unfold puts
            simp only [List.foldl]
            change Does _ _ _ fun v w' => Near _ w1 w' F [] ∧ ValAt (fun vs => vs 2) 6 (upd vs 6 v) (Grown w1 w' F []) w'
            obtain ⟨g2, e2', -⟩ := d2.1
            exact does_val (v := vs 2) (w' := w1) (by rw [e2']; go_simp <;> rfl) ⟨near_same _ _ _ _, rfl⟩
        intro wf vs F hbf hf hdis
        have f2 : BlkAt 22 (fun _ => fillC pos.length fun _ => 0) (mkS pos.length) 2 vs (F 2) wf ∧ ∀ b, F 2 b → b < wf.heap.size ∧ _ ≤ b := hf _ (.head _) (by decide)
        have f5 : BlkAt 22 (fun _ => fillC pos.length fun _ => 0) (mkS pos.length) 5 vs (F 5) wf ∧ ∀ b, F 5 b → b < wf.heap.size ∧ _ ≤ b := hf _ (.tail _ (.head _)) (by decide)
        have f6 : ValAt (fun vs => vs 2) 6 vs (F 6) wf ∧ ∀ b, F 6 b → b < wf.heap.size ∧ _ ≤ b := hf _ (.tail _ (.tail _ (.head _))) (by decide)
        clear hf
        unfold puts
        simp only [List.foldl]
        obtain ⟨⟨g2, e2, h2, k2⟩, b2⟩ := f2
        have y2 := (b2 _ h2).2
        obtain ⟨⟨g5, e5, h5, k5⟩, b5⟩ := f5
        have y5 := (b5 _ h5).2
        have e6 : vs 6 = vs 2 := f6.1
        have n2_5 : g2 ≠ g5 := fun e => hdis 2 5 _ (by decide) h2 (by rw [e]; exact h5)
        simp only [e2] at e6
        simp only [e2, e5, e6]
        clear b2 b5 f6 e2 e5 e6 h2 h5
        try dsimp only [mkS]
        try dsimp only [mkP]
        clear hdis
        repeat (first | (refine wpO_skip (from_moves w5.heap.size) rfl rfl (fun _ _ _ h => h) ?_ ; simp only [Act.put, List.setIfInBounds_toArray, List.set_cons_zero, List.set_cons_succ]) | (refine wpO_light (v := ?_) (from_moves w5.heap.size) rfl rfl (fun _ _ _ h => h) ?_ ?_ ; rotate_left ; (· (intro w' hR ; (first | have hcells := from_cellsD ((from_moves w5.heap.size).trans _ _ _ hacc hR) | skip) ; go_simp ; try with_reducible rfl)) ; simp only [Act.put, List.setIfInBounds_toArray, List.set_cons_zero, List.set_cons_succ]))
        refine wpO_done ?_
        have hbn := hbW.trans hbf
        clear hbW hbf HWc hacc hNc mk
        obtain ⟨fx, hfx⟩ : ∃ fx, fx = mxV L pos := ⟨_, rfl⟩
        obtain ⟨fy, hfy⟩ : ∃ fy, fy = myV L msg pos vals := ⟨_, rfl⟩
        obtain ⟨M, hM⟩ : ∃ M, M = (List.range L.block).map (invP L.p L.block j msg) := ⟨_, rfl⟩
        have HFV := Lib.hid (show ∀ i, (vals.getD i 0 + negP L.p (hornP L.p (fx i) M)) % L.p * ((((fx i) ^ L.block % L.p + negP L.p 1) % L.p) ^ (L.p - 2) % L.p) % L.p = fy i from fun i => by rw [HHE.out, hM, HMA.out, hfx, hfy]; rfl)
        have HFXE := Lib.hid (show ∀ i, fx i = domR L.p (rowOf L.p).1 L.n (pos.getD i 0).toNat from fun i => by rw [hfx]; rfl)
        have HMI := Lib.hid hM.symm
        have HXS := Lib.hid (show (List.range pos.length).map fx = mXs L pos by rw [hfx]; rfl)
        have HYS := Lib.hid (show (List.range pos.length).map fy = mYs L msg pos vals by rw [hfy]; rfl)
        rw [← hfx] at HXL
        rw [← hfy] at HYL
        clear hfx hfy hM HHE HMA
        have HZ2 := Lib.hid (upTo_zero pos.length fx fun _ => 0)
        have HZ5 := Lib.hid (upTo_zero pos.length fy fun _ => 0)
        generalize invP L.p L.block j msg = I at *
        obtain ⟨hvl, hvc, hvx, -, hvr⟩ := lw_at hv
        have HVL := Lib.hid hvl
        clear hvl
        go_wp2_with fail
        go_loopw [80] (fun y wr => ∃ i : Nat, i ≤ pos.length ∧ y = .int .i64 (i : Int) ∧ Blk wr g2 22 (fillC pos.length (upTo fx (fun _ => 0) i)) ∧ Blk wr g5 22 (fillC pos.length (upTo fy (fun _ => 0) i)) ∧ Below w5.heap.size w5 wr) (fun y _ => pos.length - (intOf y).toNat)
        case atStart => exact ⟨0, Nat.zero_le _, rfl, by rw [HZ2.out]; exact k2, by rw [HZ5.out]; exact k5, hbn⟩
        case round =>
          clear k2 k5 hbn
          obtain ⟨i, hi, rfl, k2, k5, hb⟩ := hrel
          have hbo := below_chain hb0 hb
          have kl1 := kl.below hb kl.lt
          have kf1 := kf.below hb kf.lt
          by_cases hlt : i < pos.length
          · have q1 : (i : Int) < (pos.length : Int) := by omega
            have q2 : (0 : Int) ≤ (i : Int) := by omega
            obtain ⟨b, q, rfl, hbl, hc, -, -⟩ := ri_get hrd hlt
            obtain ⟨hz0, hz1, -⟩ := HPA.out HPO.out i hlt
            obtain ⟨z, hz⟩ : ∃ z : Nat, pos.getD i 0 = (z : Int) := ⟨_, (Int.toNat_of_nonneg hz0).symm⟩
            rw [hz] at hc hz1
            have hzn : z < L.n := by omega
            obtain ⟨b3, q3', rfl, hbl3, hc3⟩ := lw_get (l := vals) (by rw [← HVL.out]; exact hvr) (j := i) (by rw [HVQ2.out, ← HQ.out]; exact hlt)
            have HYE := Lib.hid (HFV.out i)
            have cp := (kp.below hb kp.lt).cell z
            rw [fill_get _ hzn, show domR L.p (rowOf L.p).1 L.n z = fx i by rw [HFXE.out i, hz]; rfl] at cp
            obtain ⟨x, hx⟩ : ∃ x, x = fx i := ⟨_, rfl⟩
            obtain ⟨y, hy⟩ : ∃ y, y = fy i := ⟨_, rfl⟩
            have HS2 := Lib.hid (upTo_set (n := pos.length) (G := fun _ => 0) hx)
            have HS5 := Lib.hid (upTo_set (n := pos.length) (G := fun _ => 0) hy)
            rw [← hx] at cp
            rw [← hx, ← hy] at HYE
            obtain ⟨v, hv'⟩ : ∃ v, v = vals.getD i 0 := ⟨_, rfl⟩
            rw [← hv'] at hc3 HYE
            obtain ⟨t, ht⟩ : ∃ t, t = x ^ L.block % L.p := ⟨_, rfl⟩
            obtain ⟨zz, hzz⟩ : ∃ zz, zz = (t + negP L.p 1) % L.p := ⟨_, rfl⟩
            obtain ⟨ev, hev⟩ : ∃ ev, ev = hornP L.p x M := ⟨_, rfl⟩
            obtain ⟨s, hs⟩ : ∃ s, s = (v + negP L.p ev) % L.p := ⟨_, rfl⟩
            rw [← ht, ← hzz, ← hev, ← hs] at HYE
            have HW1 := Lib.hid (fun w => by have := HW.out x L.block w HBL.out; rw [← ht] at this; exact this)
            have HS1 := Lib.hid (fun w => by have := HS.out t 1 w; rw [← hzz] at this; exact this)
            have HE1 := Lib.hid (fun A n c w hl => by have := HE.out A n c x M w hl; rw [← hev] at this; exact this)
            have HSv := Lib.hid (fun w => by have := HS.out v ev w; rw [← hs] at this; exact this)
            have HD1 := Lib.hid (fun w => by have := HDv.out s zz w; rw [HYE.out] at this; exact this)
            have c1 := (hbo.cell (p := ⟨b, q + i, none⟩) hbl).trans hc
            have u1 : (0 : Int) ≤ (z : Int) := by omega
            have u2 : (z : Int) < (L.n : Int) := by omega
            have u3 : decide ((L.n : Int) ≤ (z : Int)) = false := decide_eq_false (by omega)
            have u4 : (i : Int) < (k : Int) := by have := HVL.out; have := HVQ2.out; have := HQ.out; omega
            have c2 := k2.cell i
            rw [upTo_get _ _ hlt] at c2
            have f2 := k2.frozen
            clear hx hy hv' ht hzz hev hs HYE hz0 hz1 hzn hz hc
            go_upto_region 22 with fail
            have hg := set_only (w := wr) g2 i (.int .u64 (x : Int))
            replace k2 := k2.set_ i (.int .u64 (x : Int))
            rw [HS2.out] at k2
            replace k5 := k5.grown hg (fun e => n2_5 (Option.some.inj e).symm)
            replace hb := hb.trans (below_of_only hg hb.size y2)
            clear hg f2 c2 c1 cp hbo kl1 kf1
            generalize wr.setCell _ _ = w6 at k2 k5 hb ⊢
            have kl1 := kl.below hb kl.lt
            have kf1 := kf.below hb kf.lt
            have cl := kl1.cell
            have ll := kl1.lt
            have cf := kf1.cell
            have lf := kf1.lt
            refine wpO_begin (Later) [6, 7] [0, 1, 2, 3, 4, 5, 6, 7, 8] (by kernel_rfl) (by kernel_rfl) ?_
            refine wpO_startK (later_moves) ?_
            intro Wc HWc hacc
            have hbW : Below w6.heap.size w6 Wc := by rw [HWc.out]; exact (Below.refl _ _).drew
            replace k2 := k2.below hbW k2.lt
            replace k5 := k5.below hbW k5.lt
            replace hb := below_chain hb hbW
            repeat (first | (refine wpO_skip (later_moves) rfl rfl (fun _ _ _ h => h) ?_ ; simp only [Act.put, List.setIfInBounds_toArray, List.set_cons_zero, List.set_cons_succ]) | (refine wpO_light (v := ?_) (later_moves) rfl rfl (fun _ _ _ h => h) ?_ ?_ ; rotate_left ; (· (intro w' hR ; (first | have hcells := later_cellsD ((later_moves).trans _ _ _ hacc hR) | skip) ; go_simp ; try with_reducible rfl)) ; simp only [Act.put, List.setIfInBounds_toArray, List.set_cons_zero, List.set_cons_succ]))
            refine wpO_call (later_moves) rfl rfl rfl (fun _ => by go_simp <;> rfl) ((HW1.out _).mono ?_)
            rintro e w7 ⟨rfl, hbx⟩
            refine ⟨_, rfl, hbx, ?_⟩
            replace hacc := (later_moves).trans _ _ _ hacc (hbx)
            simp only [Act.put, List.setIfInBounds_toArray, List.set_cons_zero, List.set_cons_succ]
            replace k2 := k2.below hbx k2.lt
            replace k5 := k5.below hbx k5.lt
            replace hb := below_chain hb hbx
            repeat (first | (refine wpO_skip (later_moves) rfl rfl (fun _ _ _ h => h) ?_ ; simp only [Act.put, List.setIfInBounds_toArray, List.set_cons_zero, List.set_cons_succ]) | (refine wpO_light (v := ?_) (later_moves) rfl rfl (fun _ _ _ h => h) ?_ ?_ ; rotate_left ; (· (intro w' hR ; (first | have hcells := later_cellsD ((later_moves).trans _ _ _ hacc hR) | skip) ; go_simp ; try with_reducible rfl)) ; simp only [Act.put, List.setIfInBounds_toArray, List.set_cons_zero, List.set_cons_succ]))
            refine wpO_call (later_moves) rfl rfl rfl (fun _ => by go_simp <;> rfl) ((HS1.out _).mono ?_)
            rintro e w8 ⟨rfl, hby⟩
            refine ⟨_, rfl, hby, ?_⟩
            replace hacc := (later_moves).trans _ _ _ hacc (hby)
            simp only [Act.put, List.setIfInBounds_toArray, List.set_cons_zero, List.set_cons_succ]
            replace k2 := k2.below hby k2.lt
            replace k5 := k5.below hby k5.lt
            replace hb := below_chain hb hby
            repeat (first | (refine wpO_skip (later_moves) rfl rfl (fun _ _ _ h => h) ?_ ; simp only [Act.put, List.setIfInBounds_toArray, List.set_cons_zero, List.set_cons_succ]) | (refine wpO_light (v := ?_) (later_moves) rfl rfl (fun _ _ _ h => h) ?_ ?_ ; rotate_left ; (· (intro w' hR ; (first | have hcells := later_cellsD ((later_moves).trans _ _ _ hacc hR) | skip) ; go_simp ; try with_reducible rfl)) ; simp only [Act.put, List.setIfInBounds_toArray, List.set_cons_zero, List.set_cons_succ]))
            refine wpO_done ?_
            clear hbW hbx hby hacc HWc kl1 cl ll kf1 cf lf
            have kl1 := kl.below hb kl.lt
            have kf1 := kf.below hb kf.lt
            have cl := kl1.cell
            have ll := kl1.lt
            have cf := kf1.cell
            have lf := kf1.lt
            have c3 := ((below_chain hb0 hb).cell (p := ⟨b3, q3' + i, none⟩) hbl3).trans hc3
            have l3 : b3 < w5.heap.size := Nat.lt_of_lt_of_le hbl3 hb0.size
            have lf5 := kf.lt
            go_upto_region 23 with fail
            refine wpO_begin (From w5.heap.size) [11, 12, 14, 16] [0, 1, 2, 3, 4, 5, 6, 7, 8, 9, 10, 13, 11, 12, 14, 15, 16] (by kernel_rfl) (by kernel_rfl) ?_
            refine wpO_startK (from_moves w5.heap.size) ?_
            intro Wc HWc hacc
            have hbW : Below w8.heap.size w8 Wc := by rw [HWc.out]; exact (Below.refl _ _).drew
            replace k2 := k2.below hbW k2.lt
            replace k5 := k5.below hbW k5.lt
            replace hb := below_chain hb hbW
            have hka := fill_rwd (ka.below hb ka.lt) (fun i _ => HIX.out i) (by have := HB2.out; simp [maxLen]; omega)
            rw [HMI.out] at hka
            repeat (first | (refine wpO_skip (from_moves w5.heap.size) rfl rfl (fun _ _ _ h => h) ?_ ; simp only [Act.put, List.setIfInBounds_toArray, List.set_cons_zero, List.set_cons_succ]) | (refine wpO_light (v := ?_) (from_moves w5.heap.size) rfl rfl (fun _ _ _ h => h) ?_ ?_ ; rotate_left ; (· (intro w' hR ; (first | have hcells := from_cellsD ((from_moves w5.heap.size).trans _ _ _ hacc hR) | skip) ; go_simp ; try with_reducible rfl)) ; simp only [Act.put, List.setIfInBounds_toArray, List.set_cons_zero, List.set_cons_succ]))
            refine wpO_call (from_moves w5.heap.size) rfl rfl rfl (fun _ => by go_simp <;> rfl) ((HE1.out _ _ _ _ hka).mono ?_)
            rintro e w9 ⟨rfl, hbx⟩
            refine ⟨_, rfl, hbx.mono hb.size, ?_⟩
            replace hacc := (from_moves w5.heap.size).trans _ _ _ hacc (hbx.mono hb.size)
            simp only [Act.put, List.setIfInBounds_toArray, List.set_cons_zero, List.set_cons_succ]
            replace k2 := k2.below hbx k2.lt
            replace k5 := k5.below hbx k5.lt
            replace hb := below_chain hb hbx
            repeat (first | (refine wpO_skip (from_moves w5.heap.size) rfl rfl (fun _ _ _ h => h) ?_ ; simp only [Act.put, List.setIfInBounds_toArray, List.set_cons_zero, List.set_cons_succ]) | (refine wpO_light (v := ?_) (from_moves w5.heap.size) rfl rfl (fun _ _ _ h => h) ?_ ?_ ; rotate_left ; (· (intro w' hR ; (first | have hcells := from_cellsD ((from_moves w5.heap.size).trans _ _ _ hacc hR) | skip) ; go_simp ; try with_reducible rfl)) ; simp only [Act.put, List.setIfInBounds_toArray, List.set_cons_zero, List.set_cons_succ]))
            refine wpO_call (from_moves w5.heap.size) rfl rfl rfl (fun _ => by go_simp <;> rfl) ((HSv.out _).mono ?_)
            rintro e w10 ⟨rfl, hby⟩
            refine ⟨_, rfl, hby.mono hb.size, ?_⟩
            replace hacc := (from_moves w5.heap.size).trans _ _ _ hacc (hby.mono hb.size)
            simp only [Act.put, List.setIfInBounds_toArray, List.set_cons_zero, List.set_cons_succ]
            replace k2 := k2.below hby k2.lt
            replace k5 := k5.below hby k5.lt
            replace hb := below_chain hb hby
            repeat (first | (refine wpO_skip (from_moves w5.heap.size) rfl rfl (fun _ _ _ h => h) ?_ ; simp only [Act.put, List.setIfInBounds_toArray, List.set_cons_zero, List.set_cons_succ]) | (refine wpO_light (v := ?_) (from_moves w5.heap.size) rfl rfl (fun _ _ _ h => h) ?_ ?_ ; rotate_left ; (· (intro w' hR ; (first | have hcells := from_cellsD ((from_moves w5.heap.size).trans _ _ _ hacc hR) | skip) ; go_simp ; try with_reducible rfl)) ; simp only [Act.put, List.setIfInBounds_toArray, List.set_cons_zero, List.set_cons_succ]))
            refine wpO_call (from_moves w5.heap.size) rfl rfl rfl (fun _ => by go_simp <;> rfl) ((HD1.out _).mono ?_)
            rintro e w11 ⟨rfl, hbz⟩
            refine ⟨_, rfl, hbz.mono hb.size, ?_⟩
            replace hacc := (from_moves w5.heap.size).trans _ _ _ hacc (hbz.mono hb.size)
            simp only [Act.put, List.setIfInBounds_toArray, List.set_cons_zero, List.set_cons_succ]
            replace k2 := k2.below hbz k2.lt
            replace k5 := k5.below hbz k5.lt
            replace hb := below_chain hb hbz
            repeat (first | (refine wpO_skip (from_moves w5.heap.size) rfl rfl (fun _ _ _ h => h) ?_ ; simp only [Act.put, List.setIfInBounds_toArray, List.set_cons_zero, List.set_cons_succ]) | (refine wpO_light (v := ?_) (from_moves w5.heap.size) rfl rfl (fun _ _ _ h => h) ?_ ?_ ; rotate_left ; (· (intro w' hR ; (first | have hcells := from_cellsD ((from_moves w5.heap.size).trans _ _ _ hacc hR) | skip) ; go_simp ; try with_reducible rfl)) ; simp only [Act.put, List.setIfInBounds_toArray, List.set_cons_zero, List.set_cons_succ]))
            refine wpO_heavy (from_moves w5.heap.size) rfl rfl rfl ?_
            have c5 := k5.cell i
            rw [upTo_get _ _ hlt] at c5
            have f5 := k5.frozen
            go_simp
            have hg := set_only (w := w11) g5 i (.int .u64 (y : Int))
            refine ⟨below_of_only hg hb.size y5, ?_⟩
            replace k5 := k5.set_ i (.int .u64 (y : Int))
            rw [HS5.out] at k5
            replace k2 := k2.grown hg (fun e => n2_5 (Option.some.inj e))
            replace hb := hb.trans (below_of_only hg hb.size y5)
            clear hg f5 c5 c3 hacc hbW hbx hby hbz HWc kl1 kf1 cl ll cf lf hka
            generalize w11.setCell _ _ = wz at k2 k5 hb ⊢
            have hacc := (from_moves w5.heap.size).refl wz
            try simp only [Act.put, List.setIfInBounds_toArray, List.set_cons_zero, List.set_cons_succ]
            repeat (first | (refine wpO_skip (from_moves w5.heap.size) rfl rfl (fun _ _ _ h => h) ?_ ; simp only [Act.put, List.setIfInBounds_toArray, List.set_cons_zero, List.set_cons_succ]) | (refine wpO_light (v := ?_) (from_moves w5.heap.size) rfl rfl (fun _ _ _ h => h) ?_ ?_ ; rotate_left ; (· (intro w' hR ; (first | have hcells := from_cellsD ((from_moves w5.heap.size).trans _ _ _ hacc hR) | skip) ; go_simp ; try with_reducible rfl)) ; simp only [Act.put, List.setIfInBounds_toArray, List.set_cons_zero, List.set_cons_succ]))
            refine wpO_done ?_
            clear hacc
            go_wp2_with fail
            go_roundw
            case rel => exact ⟨i + 1, by omega, by go_num, k2, k5, hb⟩
            case measure => simp [intOf]; omega
          · obtain rfl : i = pos.length := by omega
            have hx := fill_rwd k2 (fun i hi => by simp only [upTo, if_pos hi]; exact HXL.out i) (by simp [maxLen]; omega)
            have hy := fill_rwd k5 (fun i hi => by simp only [upTo, if_pos hi]; exact HYL.out i) (by simp [maxLen]; omega)
            rw [upTo_rown, HXS.out] at hx
            rw [upTo_rown, HYS.out] at hy
            have HDX1 := Lib.hid (HDX.out HPO.out)
            have HMS1 := Lib.hid (HMS.out HPO.out)
            generalize mXs L pos = XS at *
            generalize mYs L msg pos vals = YS at *
            have cf := kf1.cell
            clear hlt k2 k5 HFV HXL HYL hv hvr
            go_wp2_with fail
            refine (HNi.out _ _ _ _ _ _ _ _ _ hx hy rfl (by omega) HDX1.out).mono ?_
            rintro e' w9 ⟨gr, rfl, -, kr, hbx⟩
            replace kl1 := kl1.below hbx kl1.lt
            replace hbo := below_chain hbo hbx
            clear hbx hx hy cf kf1 HNi HDX HDX1 HMS
            have cl := kl1.cell
            have hcn := cutN_le (intP L.p XS YS) pos.length
            have hc0 := cutN_out (intP L.p XS YS) pos.length
            have HFin := Lib.hid (show fillC L.queries (intP L.p XS YS) = fillC L.queries fun i => (masksR L msg pos vals).getD i 0 from fill_same fun i hi => by rw [← HMS1.out, range_get, if_pos hi])
            obtain ⟨cn, hcne⟩ : ∃ cn, cn = cutN (intP L.p XS YS) pos.length := ⟨_, rfl⟩
            rw [← hcne] at hcn hc0 ⊢
            clear hcne HMS1
            generalize intP L.p XS YS = F at *
            have hcp := copy_run (Q := L.queries) (n := pos.length) (k := cn) F w9 gr kr hcn HQ.out (fun i h1 h2 => hc0 i h1 (by have := HQ.out; omega))
            go_wp2
            go_ret2
            exact ⟨below_setRow (below_chain hbo ((Below.refl _ _).alloc (Nat.le_refl _) _)) hbo.size _, .inr ⟨HPO.out, _, rfl, hbo.size, by rw [← HFin.out]; exact setRow_heap _ _ _ _ _ _ (Blk.new w9 _ _)⟩⟩
end Go.Proofs.Ytefnagiffllhbaa
