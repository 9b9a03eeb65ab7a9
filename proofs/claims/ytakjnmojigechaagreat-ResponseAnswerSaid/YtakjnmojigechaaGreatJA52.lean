/- A part of the proof: ReBD, ReBH, ReBI. No condition. -/
import Derived.Test.YtakjnmojigechaaGreatJA50
import Derived.Test.YtakjnmojigechaaGreatJA51
import Derived.Test.YtakjnmojigechaaGreatJA43
import Derived.Test.YtakjnmojigechaaGreatJA48

namespace Go.Proofs.YtakjnmojigechaaGreat
open Go.RowKit
set_option maxRecDepth 100000 in
set_option maxHeartbeats 1000000 in
theorem sEqual_any (A1 A2 : Option Addr) (n1 c1 n2 c2 : Nat) (l1 l2 : List Nat) (w : World) (h1 : RWd w [.slice A1 n1 c1] l1) (h2 : RWd w [.slice A2 n2 c2] l2) :
    Calls Tryz.prog 89 #[.slice A1 n1 c1, .slice A2 n2 c2] w fun e w' => e = .returned (.bool (decide (l1 = l2))) ∧ Below w.heap.size w w' := by
  obtain ⟨rfl, a1, a2, a3, r1⟩ := lw_at h1
  obtain ⟨rfl, b1, b2, b3, r2⟩ := lw_at h2
  have gm := lw_max a1 a2
  have gm2 := lw_max b1 b2
  clear h1 h2 a1 a2 b1 b2 a3 b3
  by_cases hn : l1.length = l2.length
  rotate_left
  · have t1 : ((l1.length : Int) != (l2.length : Int)) = true := by rw [bne_iff_ne]; omega
    have t2 : ((l1.length : Int) == (l2.length : Int)) = false := by rw [beq_eq_false_iff_ne]; omega
    have HF := Lib.hid (show decide (l1 = l2) = false from decide_eq_false fun h => hn (by rw [h]))
    rw [HF.out]
    generalize l1.length = m1 at *
    generalize l2.length = m2 at *
    clear r1 r2 hn
    go_enter Tryz.func89, Tryz.ntmps89
    go_wp2
    go_ret
    exact ⟨rfl, Below.refl _ _⟩
  have t1 : ((l1.length : Int) != (l2.length : Int)) = false := by rw [bne_eq_false_iff_eq]; omega
  have t2 : ((l1.length : Int) == (l2.length : Int)) = true := by rw [beq_iff_eq]; omega
  obtain ⟨n, hn1⟩ : ∃ n, l1.length = n := ⟨_, rfl⟩
  have hn2 : l2.length = n := by omega
  rw [hn1] at r1
  rw [hn2] at r2
  rw [hn1, hn2] at t1 t2
  rw [hn1] at gm
  rw [hn1, hn2]
  obtain ⟨ans, ha⟩ : ∃ ans, ans = decide (l1 = l2) := ⟨_, rfl⟩
  rw [← ha]
  have HA := Lib.hid ha
  have H1 := Lib.hid hn1
  have H2 := Lib.hid hn2
  clear hn hn1 hn2 gm2 ha
  go_enter Tryz.func89, Tryz.ntmps89
  go_wp2_with fail
  go_loopw [13] (fun y wr => ∃ i : Nat, i ≤ n ∧ y = .int .i64 (i : Int) ∧ Hid (l1.take i = l2.take i) ∧ Below w.heap.size w wr) (fun y _ => n - (intOf y).toNat)
  case atStart => exact ⟨0, Nat.zero_le _, rfl, rfl, Below.refl _ _⟩
  case round =>
    obtain ⟨i, hi, rfl, HT, hbr⟩ := hrel
    by_cases hlt : i < n
    · have g1 : (0 : Int) ≤ (i : Int) := by omega
      have g2 : (i : Int) < (n : Int) := by omega
      have q1 := r1.below hbr
      have q2 := r2.below hbr
      rw [← H1.out] at q1
      rw [← H2.out] at q2
      obtain ⟨x1, y1, rfl, v1, d1⟩ := lw_get q1 (j := i) (by rw [H1.out]; exact hlt)
      obtain ⟨x2, y2, rfl, v2, d2⟩ := lw_get q2 (j := i) (by rw [H2.out]; exact hlt)
      clear q1 q2
      by_cases he : l1.getD i 0 = l2.getD i 0
      · have HT2 := Lib.hid (same_take HT.out (by rw [H1.out]; exact hlt) (by rw [H2.out]; exact hlt) he)
        rw [← he] at d2
        generalize l1.getD i 0 = z at *
        have u1 : ((z : Int) != (z : Int)) = false := by rw [bne_eq_false_iff_eq]
        have u2 : ((z : Int) == (z : Int)) = true := by rw [beq_iff_eq]
        clear he HT
        go_wp2_with fail
        refine wpGO_begin (Later) (later_moves) [] [] [0, 1, 2, 3, 4, 5, 6, 7, 8] (by kernel_rfl) (by kernel_rfl) ?_
        refine wpGO_start (later_moves) ?_
        intro Wc hacc
        repeat (first | (refine wpGO_skip (later_moves) rfl rfl rfl rfl (fun _ _ _ h => h) ?_ ; simp only [Act.put, List.setIfInBounds_toArray, List.set_cons_zero, List.set_cons_succ]) | (refine wpGO_light (v := ?_) (later_moves) rfl rfl rfl rfl (fun _ _ _ h => h) ?_ ?_ ; rotate_left ; (· (intro w' hR ; (first | have hcells := later_cellsD ((later_moves).trans _ _ _ hacc hR) | skip) ; go_simp ; try with_reducible rfl)) ; simp only [Act.put, List.setIfInBounds_toArray, List.set_cons_zero, List.set_cons_succ]))
        refine wpGO_done rfl ?_
        intro wd hRd
        replace hacc := (later_moves).trans _ _ _ hacc hRd
        clear hRd
        go_wp2
        replace hbr := below_chain hbr.drew hacc
        go_roundw
        case rel => exact ⟨i + 1, by omega, by go_num, HT2.out, hbr⟩
        case measure => simp [intOf]; omega
      · have HF := Lib.hid (HA.out.trans (same_not he))
        generalize l1.getD i 0 = z1 at *
        generalize l2.getD i 0 = z2 at *
        have u1 : ((z1 : Int) != (z2 : Int)) = true := by rw [bne_iff_ne]; omega
        have u2 : ((z1 : Int) == (z2 : Int)) = false := by rw [beq_eq_false_iff_ne]; omega
        clear he HT
        go_wp2_with fail
        refine wpGO_begin (Later) (later_moves) [] [] [0, 1, 2, 3, 4, 5, 6, 7, 8] (by kernel_rfl) (by kernel_rfl) ?_
        refine wpGO_start (later_moves) ?_
        intro Wc hacc
        repeat (first | (refine wpGO_skip (later_moves) rfl rfl rfl rfl (fun _ _ _ h => h) ?_ ; simp only [Act.put, List.setIfInBounds_toArray, List.set_cons_zero, List.set_cons_succ]) | (refine wpGO_light (v := ?_) (later_moves) rfl rfl rfl rfl (fun _ _ _ h => h) ?_ ?_ ; rotate_left ; (· (intro w' hR ; (first | have hcells := later_cellsD ((later_moves).trans _ _ _ hacc hR) | skip) ; go_simp ; try with_reducible rfl)) ; simp only [Act.put, List.setIfInBounds_toArray, List.set_cons_zero, List.set_cons_succ]))
        refine wpGO_done rfl ?_
        intro wd hRd
        replace hacc := (later_moves).trans _ _ _ hacc hRd
        clear hRd
        go_wp2
        go_ret
        exact ⟨by rw [HF.out]; rfl, below_chain hbr.drew hacc⟩
    · obtain rfl : i = n := by omega
      have HF := Lib.hid (HA.out.trans (decide_eq_true (by have := HT.out; rwa [← H1.out, List.take_length, H1.out, ← H2.out, List.take_length] at this)))
      go_wp2
      go_ret
      exact ⟨by rw [HF.out]; rfl, hbr⟩
def colOk (L : LayR) (cs : List (List Nat)) (al be : Nat) (a b q : List Nat) (i : Int) (v : List Nat) : Bool :=
  fitOk L a b q && decide (0 ≤ i) && decide (i < (L.n : Int)) && elOk v (L.a + L.b + L.b + L.b + 3) L.p && decide (compD L cs al be a b q (domR L.p (rowOf L.p).1 L.n i.toNat) (v.take (L.a + L.b + L.b + L.b)) = v.drop (L.a + L.b + L.b + L.b))
set_option maxRecDepth 100000 in
set_option maxHeartbeats 2000000 in
theorem pColumn_any (L : LayR) (pu rho al be : Nat) (vars i : Int) (A B1 B2 B3 F : Option Addr) (R c m1 d1 m2 d2 m3 d3 n d : Nat) (rows : List RowR) (a b q v : List Nat) (w : World)
    (hL : LayOk L) (hF : TabFor L pu vars rows) (hr : RSl 3 RRow w [.slice A R c] rows) (hV : VarsOk vars rows)
    (ha : RWd w [.slice B1 m1 d1] a) (hb : RWd w [.slice B2 m2 d2] b) (hq : RWd w [.slice B3 m3 d3] q) (hv : RWd w [.slice F n d] v) :
    Calls Tryz.prog 36 #[.agg (layCs L), tabV L.p (pu : Int) vars (.slice A R c), .agg #[.int .u64 (al : Int), .int .u64 (rho : Int), .int .u64 (be : Int)], .slice B1 m1 d1, .slice B2 m2 d2, .slice B3 m3 d3, .int .i64 i, .slice F n d] w fun e w' => e = .returned (.bool (colOk L (coefD L pu rho rows) al be a b q i v)) ∧ Below w.heap.size w w' := by
  have hla := hL.a
  have hlb := hL.b
  obtain ⟨T, hT⟩ : ∃ T, T = L.a + L.b + L.b + L.b := ⟨_, rfl⟩
  obtain ⟨hvn, hvd, hvx, -, -⟩ := lw_at hv
  have gm := lw_max hvd hvx
  have HTo := Lib.hid (fun w => by have := pTotal_any L.p L.block L.queries L.k L.n L.secret L.rows L.a L.b L.b L.b w hL.a hL.b hL.b hL.b; rw [← hT] at this; exact this)
  have HFi := Lib.hid (fun w' (h : Below w.heap.size w w') => fit_any L B1 B2 B3 m1 d1 m2 d2 m3 d3 a b q w' hL (kept_RWd _ _ _ _ h ha) (kept_RWd _ _ _ _ h hb) (kept_RWd _ _ _ _ h hq) ⟨(lw_at ha).1, (lw_at hb).1, (lw_at hq).1⟩)
  have HBe := Lib.hid (fun w' (h : Below w.heap.size w w') => below26_any L F n d v w' (kept_RWd _ _ _ _ h hv))
  have HC := Lib.hid (fun (w' : World) (h : Below w.heap.size w w') (j : Nat) (hj : j < L.n) (hTn : T ≤ n) => pComplete_any L pu rho al be vars A B1 B2 B3 F R c m1 d1 m2 d2 m3 d3 j T d rows a b q (v.take T) w' hL hF (kept_RSl kept_RRow _ _ _ _ h hr) hV (kept_RWd _ _ _ _ h ha) (kept_RWd _ _ _ _ h hb) (kept_RWd _ _ _ _ h hq) (rwd_take (kept_RWd _ _ _ _ h hv) hTn) hj (by rw [List.length_take, ← hT]; omega))
  obtain ⟨CD, hCD⟩ : ∃ CD : Nat → List Nat, CD = fun j => compD L (coefD L pu rho rows) al be a b q (domR L.p (rowOf L.p).1 L.n j) (v.take T) := ⟨_, rfl⟩
  have HCD := Lib.hid (show ∀ j, compD L (coefD L pu rho rows) al be a b q (domR L.p (rowOf L.p).1 L.n j) (v.take T) = CD j from fun j => by rw [hCD])
  have HCX := Lib.hid (show ∀ j, (∀ y ∈ CD j, y < 18446744073709551616) ∧ (CD j).length = 3 from fun j => by
    rw [hCD]
    refine ⟨fun y hy => ?_, rfl⟩
    have hp := okP_lt hL.p
    simp only [compD, List.mem_cons, List.not_mem_nil, or_false] at hy
    rcases hy with h | h | h <;> rw [h] <;> exact Nat.lt_trans (subN_lt (by omega) _ _) hp.2)
  have HEq := Lib.hid (fun (j : Nat) (A1 : Option Addr) (c1 : Nat) (w' : World) (h : Below w.heap.size w w') (hTn : T ≤ n) (h3 : RWd w' [.slice A1 3 c1] (CD j)) => sEqual_any A1 (if d = T then F else Option.map (fun x => x.add T) F) 3 c1 (n - T) (d - T) (CD j) (v.drop T) w' h3 (rwd_cut (kept_RWd _ _ _ _ h hv) hTn))
  have HE := Lib.hid (show colOk L (coefD L pu rho rows) al be a b q i v = (fitOk L a b q && decide (0 ≤ i) && decide (i < (L.n : Int)) && (decide (v.length = T + 3) && v.all fun x => decide (x < L.p)) && decide (CD i.toNat = v.drop T)) by rw [hCD, hT]; rfl)
  obtain ⟨ans, hans⟩ : ∃ ans, ans = colOk L (coefD L pu rho rows) al be a b q i v := ⟨_, rfl⟩
  rw [← hans] at HE ⊢
  obtain ⟨t, ht⟩ : ∃ t, t = T + 3 := ⟨_, rfl⟩
  have e1 : (T : Int) + 3 = (t : Int) := by omega
  have e2 : IntKind.i64.wrap (t : Int) = (t : Int) := wr_i64 _ (by omega) (by omega)
  have HT := Lib.hid ht
  have HN := Lib.hid hvn
  generalize fitOk L a b q = b1 at *
  generalize (v.all fun x => decide (x < L.p)) = b2 at *
  have gT : T ≤ 400000 := by omega
  have gd : n ≤ d := hvd
  clear hla hlb hT hvn hvd hvx hCD hans ht hL hF hr hV ha hb hq hv
  unfold layCs tabV at *
  obtain ⟨kl, kt, kx, hb0, -⟩ := boxes3 w 55 25 57 #[.int .u64 (L.p : Int), .int .i64 (L.block : Int), .int .i64 (L.queries : Int), .int .i64 (L.k : Int), .int .i64 (L.n : Int), .int .i64 (L.secret : Int), .int .i64 (L.rows : Int), .int .i64 (L.a : Int), .int .i64 (L.b : Int), .int .i64 (L.b : Int), .int .i64 (L.b : Int)] #[.int .u64 (L.p : Int), .int .i64 (pu : Int), .int .i64 vars, .slice A R c] #[.int .u64 (al : Int), .int .u64 (rho : Int), .int .u64 (be : Int)]
  go_enter Tryz.func36, Tryz.ntmps36
  go_upto_region 1 with fail
  generalize ((w.alloc _).alloc _).alloc _ = w1 at kl kt kx hb0 ⊢
  have cl := kl.cell
  go_wp2_with fail
  refine (HTo.out _).mono ?_
  rintro e w2 ⟨rfl, hbx⟩
  replace kl := kl.below hbx kl.lt
  replace kt := kt.below hbx kt.lt
  replace kx := kx.below hbx kx.lt
  replace hb0 := below_chain hb0 hbx
  clear hbx cl
  have cl := kl.cell
  go_wp2_with fail
  refine (HFi.out _ hb0).mono ?_
  rintro e w3 ⟨rfl, hbx⟩
  replace kl := kl.below hbx kl.lt
  replace kt := kt.below hbx kt.lt
  replace kx := kx.below hbx kx.lt
  replace hb0 := below_chain hb0 hbx
  clear hbx cl
  cases b1
  · go_wp2
    go_ret
    exact ⟨by rw [HE.out]; simp, hb0⟩
  by_cases hi0 : i < 0
  · have x1 : decide (i < 0) = true := decide_eq_true hi0
    have HF := Lib.hid (show ans = false by rw [HE.out, decide_eq_false (show ¬ (0 ≤ i) by omega)]; simp)
    clear HE
    go_wp2
    go_ret
    exact ⟨by rw [HF.out]; rfl, hb0⟩
  have x1 : decide (i < 0) = false := decide_eq_false hi0
  have cl := kl.cell
  by_cases hiN : (L.n : Int) ≤ i
  · have x2 : decide ((L.n : Int) ≤ i) = true := decide_eq_true hiN
    have HF := Lib.hid (show ans = false by rw [HE.out, decide_eq_false (show ¬ (i < (L.n : Int)) by omega)]; simp)
    clear HE
    go_wp2
    go_ret
    exact ⟨by rw [HF.out]; rfl, hb0⟩
  have x2 : decide ((L.n : Int) ≤ i) = false := decide_eq_false hiN
  by_cases hlen : n = t
  rotate_left
  · have x3 : ((n : Int) != (t : Int)) = true := by rw [bne_iff_ne]; omega
    have HF := Lib.hid (show ans = false by rw [HE.out, decide_eq_false (show ¬ (v.length = T + 3) by have := HT.out; have := HN.out; omega)]; simp)
    clear HE hlen
    go_wp2
    go_ret
    exact ⟨by rw [HF.out]; rfl, hb0⟩
  have x3 : ((n : Int) != (t : Int)) = false := by rw [bne_eq_false_iff_eq]; omega
  obtain ⟨j, rfl⟩ := Int.eq_ofNat_of_zero_le (show 0 ≤ i by omega)
  have hjn : j < L.n := by omega
  have HE2 := Lib.hid (show ans = (b2 && decide (CD j = v.drop T)) by rw [HE.out, decide_eq_true (show 0 ≤ (j : Int) by omega), decide_eq_true (show (j : Int) < (L.n : Int) by omega), decide_eq_true (show v.length = T + 3 by have := HT.out; have := HN.out; omega)]; simp)
  have hTn : T ≤ n := by have := HT.out; omega
  have y1 : (0 : Int) ≤ (T : Int) := by omega
  have y2 : (T : Int) ≤ (n : Int) := by omega
  have y3 : (T : Int) ≤ (d : Int) := by omega
  clear hi0 hiN hlen HE
  go_wp2_with fail
  refine (HBe.out _ hb0).mono ?_
  rintro e w4 ⟨rfl, hbx⟩
  replace kl := kl.below hbx kl.lt
  replace kt := kt.below hbx kt.lt
  replace kx := kx.below hbx kx.lt
  replace hb0 := below_chain hb0 hbx
  clear hbx cl
  cases b2
  · go_wp2
    go_ret
    exact ⟨by rw [HE2.out]; rfl, hb0⟩
  have cl := kl.cell
  have ll := kl.lt
  have ct := kt.cell
  have lt := kt.lt
  have cx := kx.cell
  have lx := kx.lt
  go_upto_region 4 with fail
  refine wpO_begin (Later) [10, 14] [0, 1, 2, 3, 4, 5, 6, 7, 8, 9, 11, 12, 13, 10, 14, 15] (by kernel_rfl) (by kernel_rfl) ?_
  refine wpO_startK (later_moves) ?_
  intro Wc HWc hacc
  have hbW : Below w4.heap.size w4 Wc := by rw [HWc.out]; exact (Below.refl _ _).drew
  replace hb0 := below_chain hb0 hbW
  clear hbW
  repeat (first | (refine wpO_skip (later_moves) rfl rfl (fun _ _ _ h => h) ?_ ; simp only [Act.put, List.setIfInBounds_toArray, List.set_cons_zero, List.set_cons_succ]) | (refine wpO_light (v := ?_) (later_moves) rfl rfl (fun _ _ _ h => h) ?_ ?_ ; rotate_left ; (· (intro w' hR ; (first | have hcells := later_cellsD ((later_moves).trans _ _ _ hacc hR) | skip) ; go_simp ; try with_reducible rfl)) ; simp only [Act.put, List.setIfInBounds_toArray, List.set_cons_zero, List.set_cons_succ]))
  refine wpO_call (later_moves) rfl rfl rfl (fun _ => by go_simp <;> rfl) ((HC.out _ hb0 j hjn hTn).mono ?_)
  rintro e w5 ⟨v5, rfl, o5, hb5⟩
  refine ⟨_, rfl, hb5, ?_⟩
  replace hacc := (later_moves).trans _ _ _ hacc (hb5)
  simp only [Act.put, List.setIfInBounds_toArray, List.set_cons_zero, List.set_cons_succ]
  rw [HCD.out] at o5
  obtain ⟨A5, c5, rfl, -⟩ := own_form o5
  have h5 := lw_own o5 (HCX.out j).1
  replace hb0 := below_chain hb0 hb5
  clear hb5 o5
  repeat (first | (refine wpO_skip (later_moves) rfl rfl (fun _ _ _ h => h) ?_ ; simp only [Act.put, List.setIfInBounds_toArray, List.set_cons_zero, List.set_cons_succ]) | (refine wpO_light (v := ?_) (later_moves) rfl rfl (fun _ _ _ h => h) ?_ ?_ ; rotate_left ; (· (intro w' hR ; (first | have hcells := later_cellsD ((later_moves).trans _ _ _ hacc hR) | skip) ; go_simp ; try with_reducible rfl)) ; simp only [Act.put, List.setIfInBounds_toArray, List.set_cons_zero, List.set_cons_succ]))
  refine wpO_call (later_moves) rfl rfl rfl (fun _ => by go_simp <;> rfl) ((HEq.out j _ _ _ hb0 hTn h5).mono ?_)
  rintro e w6 ⟨rfl, hb6⟩
  refine ⟨_, rfl, hb6, ?_⟩
  replace hacc := (later_moves).trans _ _ _ hacc (hb6)
  simp only [Act.put, List.setIfInBounds_toArray, List.set_cons_zero, List.set_cons_succ]
  replace hb0 := below_chain hb0 hb6
  clear hb6 h5
  repeat (first | (refine wpO_skip (later_moves) rfl rfl (fun _ _ _ h => h) ?_ ; simp only [Act.put, List.setIfInBounds_toArray, List.set_cons_zero, List.set_cons_succ]) | (refine wpO_light (v := ?_) (later_moves) rfl rfl (fun _ _ _ h => h) ?_ ?_ ; rotate_left ; (· (intro w' hR ; (first | have hcells := later_cellsD ((later_moves).trans _ _ _ hacc hR) | skip) ; go_simp ; try with_reducible rfl)) ; simp only [Act.put, List.setIfInBounds_toArray, List.set_cons_zero, List.set_cons_succ]))
  refine wpO_done ?_
  generalize (if d = T then F else Option.map (fun x => x.add T) F) = FX
  go_wp2
  go_ret
  exact ⟨by rw [HE2.out]; rfl, hb0⟩
set_option maxRecDepth 100000 in
set_option maxHeartbeats 400000 in
theorem of26_any (L : LayR) (w : World) :
    Calls Tryz.prog 17 #[.agg (layCs L)] w fun e w' => e = .returned (.agg (layCs L)) ∧ Below w.heap.size w w' := by
  unfold layCs
  go_enter Tryz.func17, Tryz.ntmps17
  go_wp2_with fail
  exact bodyPost_ret (v := .agg #[.int .u64 (L.p : Int), .int .i64 (L.block : Int), .int .i64 (L.queries : Int), .int .i64 (L.k : Int), .int .i64 (L.n : Int), .int .i64 (L.secret : Int), .int .i64 (L.rows : Int), .int .i64 (L.a : Int), .int .i64 (L.b : Int), .int .i64 (L.b : Int), .int .i64 (L.b : Int)]) (by simp [results, Tryz.results17, go_sem]) rfl ⟨rfl, ((Below.refl _ w).alloc (Nat.le_refl _) _).alloc (by simp) _⟩
set_option maxRecDepth 100000 in
set_option maxHeartbeats 400000 in
theorem chal26_any (al rho be : Nat) (w : World) :
    Calls Tryz.prog 18 #[.agg #[.int .u64 (al : Int), .int .u64 (rho : Int), .int .u64 (be : Int)]] w fun e w' => e = .returned (.agg #[.int .u64 (al : Int), .int .u64 (rho : Int), .int .u64 (be : Int)]) ∧ Below w.heap.size w w' := by
  go_enter Tryz.func18, Tryz.ntmps18
  go_wp2_with fail
  exact bodyPost_ret (v := .agg #[.int .u64 (al : Int), .int .u64 (rho : Int), .int .u64 (be : Int)]) (by simp [results, Tryz.results18, go_sem]) rfl ⟨rfl, ((Below.refl _ w).alloc (Nat.le_refl _) _).alloc (by simp) _⟩
set_option maxRecDepth 100000 in
set_option maxHeartbeats 1000000 in
theorem own26_any (A : Option Addr) (n c : Nat) (l : List Nat) (w : World) (hl : RWd w [.slice A n c] l) (hn : n ≤ 100000000) :
    Calls Tryz.prog 19 #[.slice A n c] w fun e w' => ∃ v, e = .returned v ∧ w'.ownsRow w.heap.size 22 1 v n (U64 l) ∧ Below w.heap.size w w' := by
  obtain ⟨rfl, h1, h2, hlt, hrd⟩ := lw_at hl
  have hal := (Below.refl w.heap.size w).alloc (Nat.le_refl _) (.cells #[] 22)
  clear hl h1 h2 hlt
  go_enter Tryz.func19, Tryz.ntmps19
  go_wp2_with (at_builtin; refine wpl_append rfl _ _ rfl el_w rfl (own_empty w 22 (Nat.le_refl _)) rfl (hrd.alloc _) (one_U64 l) (by omega) (by simp) ?_)
  intro v1 w1 hown hgrow hblk
  have hB := lw_grow (own_empty w 22 (Nat.le_refl _)) hgrow (by simp)
  replace hB := hal.trans hB
  replace hown : w1.ownsRow w.heap.size 22 1 v1 l.length (U64 l) := by simpa using hown
  go_wp2
  go_ret
  exact ⟨_, rfl, hown, hB⟩
theorem rwd_own26 {w : World} {base n : Nat} {v : Value} {l : List Nat} (h : w.ownsRow base 22 1 v n (U64 l)) (hl : ∀ x ∈ l, x < 18446744073709551616) : ∃ A c, v = .slice A n c ∧ RWd w [.slice A n c] l := by
  obtain ⟨A, c, rfl, -⟩ := own_form h
  exact ⟨A, c, rfl, lw_own h hl⟩
set_option maxRecDepth 100000 in
set_option maxHeartbeats 1000000 in
theorem copied26_any (A : Option Addr) (n c : Nat) (m : List (List Nat)) (w : World) (hm : RRows w [.slice A n c] m) (hn : n ≤ 400000) (hml : ∀ x ∈ m, x.length ≤ 100000) :
    Calls Tryz.prog 24 #[.slice A n c] w fun e w' => ∃ v, e = .returned v ∧ RRows w' [v] m ∧ Below w.heap.size w w' := by
  obtain ⟨hmn, -, -, hmd⟩ := rows_at hm
  have HO := Lib.hid (fun A n c l w hl hn => own26_any A n c l w hl hn)
  have HMN := Lib.hid hmn
  have HML := Lib.hid hml
  have gn : (n : Int) ≤ 400000 := by omega
  obtain ⟨f, hf⟩ : ∃ f : Nat → List Nat, f = fun i => m.getD i [] := ⟨_, rfl⟩
  have HF := Lib.hid (show ∀ i (h : i < m.length), f i = m[i] from fun i h => by rw [hf]; exact getD_at h)
  have HRF := Lib.hid (rangeF_next f)
  have HE := Lib.hid (show (List.range n).map f = m by
    refine List.ext_getElem (by simp [hmn]) fun i h1 h2 => ?_
    rw [List.getElem_map, List.getElem_range, hf]
    exact getD_at h2)
  clear hm hmn hml hf
  go_enter Tryz.func24, Tryz.ntmps24
  go_wp2_with fail
  go_loopw [3, 8] (fun u y wr => ∃ (i : Nat) (v : Value) (cs : List Value), v = u ∧ i ≤ n ∧ y = .int .i64 (i : Int) ∧ wr.ownsRow w.heap.size 28 1 v i cs ∧ GRows 0 wr v cs ((List.range i).map f) ∧ Below w.heap.size w wr) (fun _ y _ => n - (intOf y).toNat)
  case atStart => exact ⟨0, _, [], rfl, Nat.zero_le _, rfl, ⟨rfl, .inl ⟨rfl, rfl⟩⟩, grows_nil _ _ _, Below.refl _ _⟩
  case round =>
    obtain ⟨i, v, cs, rfl, hi, rfl, hown, hgr, hb⟩ := hrel
    by_cases hlt : i < n
    · have q1 : (i : Int) < (n : Int) := by omega
      have q2 : (0 : Int) ≤ (i : Int) := by omega
      have hia : i < m.length := by rw [HMN.out]; exact hlt
      obtain ⟨b1, q1', A1, n1, c1, rfl, hbl1, hc1, hm1⟩ := rows_get hmd hia
      have cc1 := (hb.cell (p := ⟨b1, q1' + i, none⟩) hbl1).trans hc1
      have hm2 := kept_RWd _ _ _ _ hb hm1
      have HFi := Lib.hid (HF.out i hia)
      have HRi := Lib.hid (HRF.out i)
      have hln := HML.out _ (List.getElem_mem hia)
      rw [← HFi.out] at hm2 hln
      have hn1 := (lw_at hm2).1
      have hlx := Lib.hid (lw_at hm2).2.2.2.1
      have hn2 : n1 ≤ 100000 := by omega
      obtain ⟨fi, hfi⟩ : ∃ fi, fi = f i := ⟨_, rfl⟩
      rw [← hfi] at hm2 hlx HRi
      clear hfi hln hn1 hc1 hm1 HFi
      go_wp2_with fail
      refine (HO.out _ _ _ _ _ hm2 (by omega)).mono ?_
      rintro e w7 ⟨v7, rfl, o7, hb7⟩
      obtain ⟨A7, c7, rfl, -⟩ := own_form o7
      have hx := rwx_own (N := 0) (gb := v.ownBlock) o7 hlx.out (Nat.zero_le _) (fun q e => (hown.lt q e).2)
      replace hown := own_below hown hb7 (Nat.le_refl _)
      replace hgr := grows_below hgr hb7
      replace hb := below_chain hb hb7
      clear hb7 o7 cc1 hm2
      go_wp2_with (at_builtin; refine wpl_append rfl _ _ rfl el_ww rfl (hown.alloc _) rfl (rd_one _ _ _) (by intro u hu; simp at hu; subst hu; rfl) (by omega) (by simp; have := hb.size; omega) ?_)
      intro v' wn hown' hgrow hblk
      have hal := (Below.refl w7.heap.size w7).alloc (Nat.le_refl _) (.cells #[.slice A7 n1 c7] 28)
      have hBx := lw_grow (hown.alloc _) hgrow (by simp; have := hb.size; omega)
      replace hgr := grows_below hgr hal
      replace hx := rwx_keep hx hal.size (fun b _ h2 _ => hal.block b h2)
      have hgn := grows_app hgr hx hgrow (by simpa using hblk)
      rw [HRi.out] at hgn
      replace hb := (below_chain hb hal).trans hBx
      clear hal hgrow hblk hBx hgr hx hown
      go_wp2
      go_roundw
      case rel => exact ⟨i + 1, v', _, rfl, by omega, by go_num, hown', hgn, hb⟩
      case measure => simp [intOf]; omega
    · obtain rfl : i = n := by omega
      have q1 : ¬ ((i : Int) < (i : Int)) := by omega
      have hend := grows_done hgr hown
      rw [HE.out] at hend
      go_wp2
      go_ret
      exact ⟨_, rfl, hend, hb⟩
set_option maxRecDepth 100000 in
set_option maxHeartbeats 2000000 in
theorem answer26_any (L : LayR) (pu rho al be : Nat) (vars : Int) (A AM D0 D1 D2 D3 D4 : Option Addr) (R c T cM n0 n1 n2 n3 n4 k0 k1 k2 k3 k4 : Nat) (rows : List RowR) (m r : List (List Nat)) (co li qu sa : List Nat) (w : World)
    (hL : LayOk L) (hF : TabFor L pu vars rows) (hr : RSl 3 RRow w [.slice A R c] rows) (hV : VarsOk vars rows)
    (hm : RRows w [.slice AM T cM] m) (h0 : RRows w [.slice D0 n0 k0] r) (h1 : RWd w [.slice D1 n1 k1] co) (h2 : RWd w [.slice D2 n2 k2] li) (h3 : RWd w [.slice D3 n3 k3] qu) (h4 : RWd w [.slice D4 n4 k4] sa)
    (hco : coinsOk L r co li qu sa = true) (hmT : m.length = L.a + L.b + L.b + L.b) (hml : ∀ x ∈ m, x.length = L.block) :
    Calls Tryz.prog 12 #[.agg (layCs L), tabV L.p (pu : Int) vars (.slice A R c), .slice AM T cM, .agg #[.slice D0 n0 k0, .slice D1 n1 k1, .slice D2 n2 k2, .slice D3 n3 k3, .slice D4 n4 k4], .agg #[.int .u64 (al : Int), .int .u64 (rho : Int), .int .u64 (be : Int)]] w fun e w' => ∃ v1 v2 v3, e = .returned (.agg #[v1, v2, v3]) ∧
      w'.ownsRow w.heap.size 22 1 v1 (ansCd L m r co al).length (U64 (ansCd L m r co al)) ∧ w'.ownsRow w.heap.size 22 1 v2 (ansLd L (coefD L pu rho rows) m r li).length (U64 (ansLd L (coefD L pu rho rows) m r li)) ∧ w'.ownsRow w.heap.size 22 1 v3 (ansQd L m r qu be).length (U64 (ansQd L m r qu be)) ∧ Below w.heap.size w w' := by
  obtain ⟨f1, f2, f3, f4, f5⟩ := coins_facts hco
  have hok : MsgOk L m r := ⟨hmT, by omega, hml, fun x hx => (f2 x hx).1⟩
  have hp := okP_lt hL.p
  have hla := hL.a
  have hlb := hL.b
  have hb2 := hL.b2
  have hTm := (rows_at hm).1
  have HOf := Lib.hid (fun w => of26_any L w)
  have HCh := Lib.hid (fun w => chal26_any al rho be w)
  have HCp := Lib.hid (fun w' (hb : Below w.heap.size w w') => copied26_any AM T cM m w' (kept_RSl kept_RWd _ _ _ _ hb hm) (by omega) (fun x hx => by have := hml x hx; omega))
  have e1 := code_same hL hok f3.1 f3.2 al
  have e2 := lin_same hL hok (cs := coefD L pu rho rows) coefD_row (by rw [coefD_len, hmT]) f4.1 f4.2
  have e3 := quad_same hL hok f5.1 be
  have HAn := Lib.hid (show ∀ (AM : Option Addr) (cM : Nat) (w' : World), Below w.heap.size w w' → RRows w' [.slice AM T cM] m → Calls Tryz.prog 34 #[.agg (layCs L), tabV L.p (pu : Int) vars (.slice A R c), .slice AM T cM, .agg #[.slice D0 n0 k0, .slice D1 n1 k1, .slice D2 n2 k2, .slice D3 n3 k3, .slice D4 n4 k4], .agg #[.int .u64 (al : Int), .int .u64 (rho : Int), .int .u64 (be : Int)]] w' fun e w2 => ∃ v1 v2 v3, e = .returned (.tuple #[v1, v2, v3]) ∧
      w2.ownsRow w'.heap.size 22 1 v1 (ansCd L m r co al).length (U64 (ansCd L m r co al)) ∧ w2.ownsRow w'.heap.size 22 1 v2 (ansLd L (coefD L pu rho rows) m r li).length (U64 (ansLd L (coefD L pu rho rows) m r li)) ∧ w2.ownsRow w'.heap.size 22 1 v3 (ansQd L m r qu be).length (U64 (ansQd L m r qu be)) ∧ Below w'.heap.size w' w2 from fun AM cM w' hb hm' => by
    refine (pAnswer_any L pu rho al be vars A AM D0 D1 D2 D3 D4 R c T cM n0 n1 n2 n3 n4 k0 k1 k2 k3 k4 rows m r co li qu sa w' hL hF (kept_RSl kept_RRow _ _ _ _ hb hr) hV hm' (kept_RSl kept_RWd _ _ _ _ hb h0) (kept_RWd _ _ _ _ hb h1) (kept_RWd _ _ _ _ hb h2) (kept_RWd _ _ _ _ hb h3) (kept_RWd _ _ _ _ hb h4) hco hmT hml).mono ?_
    rintro e w2 ⟨v1, v2, v3, rfl, o1, o2, o3, hb'⟩
    rw [coef_same (by omega)] at o2
    have l1 : (ansCd L m r co al).length = L.k := by rw [← e1]; simp
    have l2 : (ansLd L (coefD L pu rho rows) m r li).length = L.k + L.block - 1 := by rw [← e2]; simp
    have l3 : (ansQd L m r qu be).length = 2 * L.k - 1 := by rw [← e3]; simp
    rw [e1] at o1
    rw [e2] at o2
    rw [e3] at o3
    exact ⟨v1, v2, v3, rfl, by rw [l1]; exact o1, by rw [l2]; exact o2, by rw [l3]; exact o3, hb'⟩)
  have HTM := Lib.hid hTm
  generalize ansCd L m r co al = N1 at *
  generalize ansLd L (coefD L pu rho rows) m r li = N2 at *
  generalize ansQd L m r qu be = N3 at *
  clear f1 f2 f3 f4 f5 hok hp hla hlb hb2 hTm e1 e2 e3 hL hF hr hV hm h0 h1 h2 h3 h4 hco hmT hml
  unfold layCs tabV at *
  obtain ⟨kl, kt, kc, kx, ka, hb0, -⟩ := boxes5 w 39 25 42 32 46 #[.int .u64 (L.p : Int), .int .i64 (L.block : Int), .int .i64 (L.queries : Int), .int .i64 (L.k : Int), .int .i64 (L.n : Int), .int .i64 (L.secret : Int), .int .i64 (L.rows : Int), .int .i64 (L.a : Int), .int .i64 (L.b : Int), .int .i64 (L.b : Int), .int .i64 (L.b : Int)] #[.int .u64 (L.p : Int), .int .i64 (pu : Int), .int .i64 vars, .slice A R c] #[.slice D0 n0 k0, .slice D1 n1 k1, .slice D2 n2 k2, .slice D3 n3 k3, .slice D4 n4 k4] #[.int .u64 (al : Int), .int .u64 (rho : Int), .int .u64 (be : Int)] #[.slice none 0 0, .slice none 0 0, .slice none 0 0]
  go_enter Tryz.func12, Tryz.ntmps12
  go_upto_region 1 with fail
  generalize ((((w.alloc _).alloc _).alloc _).alloc _).alloc _ = w1 at kl kt kc kx ka hb0 ⊢
  have cl := kl.cell
  have ll := kl.lt
  have ct := kt.cell
  have lt := kt.lt
  have cc := kc.cell
  have lc := kc.lt
  have cx := kx.cell
  have lx := kx.lt
  refine wpO_begin (Later) [1, 4, 7, 8] [0, 2, 3, 5, 6, 1, 4, 7, 8, 9, 10, 11, 12, 13, 14, 15] (by kernel_rfl) (by kernel_rfl) ?_
  refine wpO_startK (later_moves) ?_
  intro Wc HWc hacc
  have hbW : Below w1.heap.size w1 Wc := by rw [HWc.out]; exact (Below.refl _ _).drew
  replace ka := ka.below hbW ka.lt
  replace hb0 := below_chain hb0 hbW
  clear hbW
  repeat (first | (refine wpO_skip (later_moves) rfl rfl (fun _ _ _ h => h) ?_ ; simp only [Act.put, List.setIfInBounds_toArray, List.set_cons_zero, List.set_cons_succ]) | (refine wpO_light (v := ?_) (later_moves) rfl rfl (fun _ _ _ h => h) ?_ ?_ ; rotate_left ; (· (intro w' hR ; (first | have hcells := later_cellsD ((later_moves).trans _ _ _ hacc hR) | skip) ; go_simp ; try with_reducible rfl)) ; simp only [Act.put, List.setIfInBounds_toArray, List.set_cons_zero, List.set_cons_succ]))
  refine wpO_call (later_moves) rfl rfl rfl (fun _ => by go_simp <;> rfl) ((HOf.out _).mono ?_)
  rintro e w2 ⟨rfl, hb2⟩
  refine ⟨_, rfl, hb2, ?_⟩
  replace hacc := (later_moves).trans _ _ _ hacc (hb2)
  simp only [Act.put, List.setIfInBounds_toArray, List.set_cons_zero, List.set_cons_succ]
  replace ka := ka.below hb2 ka.lt
  replace hb0 := below_chain hb0 hb2
  clear hb2
  repeat (first | (refine wpO_skip (later_moves) rfl rfl (fun _ _ _ h => h) ?_ ; simp only [Act.put, List.setIfInBounds_toArray, List.set_cons_zero, List.set_cons_succ]) | (refine wpO_light (v := ?_) (later_moves) rfl rfl (fun _ _ _ h => h) ?_ ?_ ; rotate_left ; (· (intro w' hR ; (first | have hcells := later_cellsD ((later_moves).trans _ _ _ hacc hR) | skip) ; go_simp ; try with_reducible rfl)) ; simp only [Act.put, List.setIfInBounds_toArray, List.set_cons_zero, List.set_cons_succ]))
  refine wpO_call (later_moves) rfl rfl rfl (fun _ => by go_simp <;> rfl) ((HCp.out _ hb0).mono ?_)
  rintro e w3 ⟨v3, rfl, h3, hb3⟩
  refine ⟨_, rfl, hb3, ?_⟩
  replace hacc := (later_moves).trans _ _ _ hacc (hb3)
  simp only [Act.put, List.setIfInBounds_toArray, List.set_cons_zero, List.set_cons_succ]
  replace ka := ka.below hb3 ka.lt
  replace hb0 := below_chain hb0 hb3
  clear hb3
  obtain ⟨A3, n3', c3, rfl⟩ := RSl.slc h3
  have hn3 : n3' = T := by rw [← (rows_at h3).1]; exact HTM.out
  subst hn3
  repeat (first | (refine wpO_skip (later_moves) rfl rfl (fun _ _ _ h => h) ?_ ; simp only [Act.put, List.setIfInBounds_toArray, List.set_cons_zero, List.set_cons_succ]) | (refine wpO_light (v := ?_) (later_moves) rfl rfl (fun _ _ _ h => h) ?_ ?_ ; rotate_left ; (· (intro w' hR ; (first | have hcells := later_cellsD ((later_moves).trans _ _ _ hacc hR) | skip) ; go_simp ; try with_reducible rfl)) ; simp only [Act.put, List.setIfInBounds_toArray, List.set_cons_zero, List.set_cons_succ]))
  refine wpO_call (later_moves) rfl rfl rfl (fun _ => by go_simp <;> rfl) ((HCh.out _).mono ?_)
  rintro e w4 ⟨rfl, hb4⟩
  refine ⟨_, rfl, hb4, ?_⟩
  replace hacc := (later_moves).trans _ _ _ hacc (hb4)
  simp only [Act.put, List.setIfInBounds_toArray, List.set_cons_zero, List.set_cons_succ]
  replace ka := ka.below hb4 ka.lt
  replace hb0 := below_chain hb0 hb4
  replace h3 := kept_RRows _ _ _ _ hb4 h3
  clear hb4
  repeat (first | (refine wpO_skip (later_moves) rfl rfl (fun _ _ _ h => h) ?_ ; simp only [Act.put, List.setIfInBounds_toArray, List.set_cons_zero, List.set_cons_succ]) | (refine wpO_light (v := ?_) (later_moves) rfl rfl (fun _ _ _ h => h) ?_ ?_ ; rotate_left ; (· (intro w' hR ; (first | have hcells := later_cellsD ((later_moves).trans _ _ _ hacc hR) | skip) ; go_simp ; try with_reducible rfl)) ; simp only [Act.put, List.setIfInBounds_toArray, List.set_cons_zero, List.set_cons_succ]))
  have la := ka.lt
  refine wpO_call (later_moves) rfl rfl rfl (fun _ => by go_simp <;> rfl) ((HAn.out _ _ _ hb0 h3).mono ?_)
  rintro e w5 ⟨v1, v2, v3, rfl, o1, o2, o3, hb5⟩
  refine ⟨_, rfl, hb5, ?_⟩
  replace hacc := (later_moves).trans _ _ _ hacc (hb5)
  simp only [Act.put, List.setIfInBounds_toArray, List.set_cons_zero, List.set_cons_succ]
  have hs5 : w.heap.size ≤ w4.heap.size := hb0.size
  replace ka := ka.below hb5 ka.lt
  replace hb0 := below_chain hb0 hb5
  clear hb5 h3
  obtain ⟨A1, c1, rfl, -⟩ := own_form o1
  obtain ⟨A2, c2, rfl, -⟩ := own_form o2
  obtain ⟨A4, c4, rfl, -⟩ := own_form o3
  repeat (first | (refine wpO_skip (later_moves) rfl rfl (fun _ _ _ h => h) ?_ ; simp only [Act.put, List.setIfInBounds_toArray, List.set_cons_zero, List.set_cons_succ]) | (refine wpO_light (v := ?_) (later_moves) rfl rfl (fun _ _ _ h => h) ?_ ?_ ; rotate_left ; (· (intro w' hR ; (first | have hcells := later_cellsD ((later_moves).trans _ _ _ hacc hR) | skip) ; go_simp ; try with_reducible rfl)) ; simp only [Act.put, List.setIfInBounds_toArray, List.set_cons_zero, List.set_cons_succ]))
  refine wpO_done ?_
  clear hacc HWc cl ll ct lt cc lc cx lx
  obtain ⟨ca, fa⟩ := ka.cells'
  go_wp2_with fail
  have hsg := set3_grown (w := w5) (g := w.heap.size + 1 + 1 + 1 + 1) (.slice A1 N1.length c1) (.slice A2 N2.length c2) (.slice A4 N3.length c4)
  have k3 := set3_blk ka (.slice A1 N1.length c1) (.slice A2 N2.length c2) (.slice A4 N3.length c4)
  replace o1 := own_base (own_stay o1 hsg (by omega)) hs5
  replace o2 := own_base (own_stay o2 hsg (by omega)) hs5
  replace o3 := own_base (own_stay o3 hsg (by omega)) hs5
  replace hb0 := hb0.trans (below_of_only hsg hb0.size (by omega))
  clear hsg ca fa ka
  generalize ((World.setCell _ _ _).setCell _ _).setCell _ _ = wf at k3 o1 o2 o3 hb0 ⊢
  have c4' := k3.cell
  exact bodyPost_ret (v := .agg #[.slice A1 N1.length c1, .slice A2 N2.length c2, .slice A4 N3.length c4]) (by simp [results, Tryz.results12, go_sem, c4']) rfl ⟨_, _, _, rfl, o1, o2, o3, hb0⟩
set_option maxRecDepth 100000 in
set_option maxHeartbeats 1000000 in
theorem square_any (w : World) :
    Calls Tryz.prog 31 #[] w fun e w' => ∃ g, e = .returned (.agg #[.int .u64 97, .int .i64 0, .int .i64 2, .slice (some ⟨g, 0, none⟩) 1 1]) ∧ RSl 3 RRow w' [.slice (some ⟨g, 0, none⟩) 1 1] [row1] ∧ Below w.heap.size w w' := by
  obtain ⟨kt, kx, hb0, hsz⟩ := boxes2 w 25 128 #[.int .u64 0, .int .i64 0, .int .i64 0, .slice none 0 0] #[.int .i64 1, .int .u64 1]
  go_enter Tryz.func31, Tryz.ntmps31
  go_upto_region 2 with fail
  generalize (w.alloc _).alloc _ = w1 at kt kx hb0 hsz ⊢
  obtain ⟨ct0, ft0⟩ := kt.cells'
  have hlt1 := kt.lt
  go_wp2_with fail
  have hg4 : w1.grownBy ((((w1.setCell ⟨w.heap.size, 0, none⟩ (.int .u64 97)).setCell ⟨w.heap.size, 1, none⟩ (.int .i64 0)).setCell ⟨w.heap.size, 2, none⟩ (.int .i64 2)).setCell ⟨w.heap.size, 3, none⟩ (.slice (some ⟨w.heap.size + 2, 0, none⟩) 1 1)) (some w.heap.size) := by
    iterate 4 refine grown_setCell' ?_ (.inl rfl) _
    exact grown_refl' _ _
  have k4 : Blk ((((w1.setCell ⟨w.heap.size, 0, none⟩ (.int .u64 97)).setCell ⟨w.heap.size, 1, none⟩ (.int .i64 0)).setCell ⟨w.heap.size, 2, none⟩ (.int .i64 2)).setCell ⟨w.heap.size, 3, none⟩ (.slice (some ⟨w.heap.size + 2, 0, none⟩) 1 1)) w.heap.size 25 #[.int .u64 97, .int .i64 0, .int .i64 2, .slice (some ⟨w.heap.size + 2, 0, none⟩) 1 1] := by
    simpa using (((kt.set_ 0 (.int .u64 97)).set_ 1 (.int .i64 0)).set_ 2 (.int .i64 2)).set_ 3 (.slice (some ⟨w.heap.size + 2, 0, none⟩) 1 1)
  have hs4 : ((((w1.setCell ⟨w.heap.size, 0, none⟩ (.int .u64 97)).setCell ⟨w.heap.size, 1, none⟩ (.int .i64 0)).setCell ⟨w.heap.size, 2, none⟩ (.int .i64 2)).setCell ⟨w.heap.size, 3, none⟩ (.slice (some ⟨w.heap.size + 2, 0, none⟩) 1 1)).heap.size = w.heap.size + 2 := by simp [hsz]
  have kx4 := kx.grown hg4 (fun e => by have := Option.some.inj e; omega)
  replace hb0 := hb0.trans (below_of_only hg4 hb0.size (Nat.le_refl _))
  clear ct0 ft0 hg4 kt kx
  generalize (((w1.setCell _ _).setCell _ _).setCell _ _).setCell _ _ = w2 at k4 kx4 hb0 hs4 ⊢
  have kr := Blk.new w2 132 #[.slice (some ⟨w.heap.size + 1, 0, none⟩) 1 1, .slice (some ⟨w.heap.size + 1, 0, none⟩) 1 1, .slice (some ⟨w.heap.size + 1, 0, none⟩) 1 1]
  rw [hs4] at kr
  have hal := (Below.refl w2.heap.size w2).alloc (Nat.le_refl _) (.cells #[.slice (some ⟨w.heap.size + 1, 0, none⟩) 1 1, .slice (some ⟨w.heap.size + 1, 0, none⟩) 1 1, .slice (some ⟨w.heap.size + 1, 0, none⟩) 1 1] 132)
  replace k4 := k4.below hal k4.lt
  replace kx4 := kx4.below hal kx4.lt
  replace hb0 := below_chain hb0 hal
  clear hal hs4
  generalize w2.alloc _ = w3 at k4 kx4 kr hb0 ⊢
  have hr := rrow_one kx4 kx4 kx4 kr
  have c4 := k4.cell
  exact bodyPost_ret (v := .agg #[.int .u64 97, .int .i64 0, .int .i64 2, .slice (some ⟨w.heap.size + 2, 0, none⟩) 1 1]) (by simp [results, Tryz.results31, go_sem, c4]) rfl ⟨_, rfl, hr, hb0⟩
theorem msgs4z (u : World) (t t2 : TypeId) : RRows (((((u.alloc (.cells #[.int .u64 0, .int .u64 0] t)).alloc (.cells #[.int .u64 0, .int .u64 0] t)).alloc (.cells #[.int .u64 0, .int .u64 0] t)).alloc (.cells #[.int .u64 0, .int .u64 0] t)).alloc (.cells #[.slice (some ⟨u.heap.size, 0, none⟩) 2 2, .slice (some ⟨u.heap.size + 1, 0, none⟩) 2 2, .slice (some ⟨u.heap.size + 1 + 1, 0, none⟩) 2 2, .slice (some ⟨u.heap.size + 1 + 1 + 1, 0, none⟩) 2 2] t2)) [.slice (some ⟨u.heap.size + 1 + 1 + 1 + 1, 0, none⟩) 4 4] [[0, 0], [0, 0], [0, 0], [0, 0]] ∧ Below u.heap.size u (((((u.alloc (.cells #[.int .u64 0, .int .u64 0] t)).alloc (.cells #[.int .u64 0, .int .u64 0] t)).alloc (.cells #[.int .u64 0, .int .u64 0] t)).alloc (.cells #[.int .u64 0, .int .u64 0] t)).alloc (.cells #[.slice (some ⟨u.heap.size, 0, none⟩) 2 2, .slice (some ⟨u.heap.size + 1, 0, none⟩) 2 2, .slice (some ⟨u.heap.size + 1 + 1, 0, none⟩) 2 2, .slice (some ⟨u.heap.size + 1 + 1 + 1, 0, none⟩) 2 2] t2)) := by
  have k1 : Blk (((((u.alloc (.cells #[.int .u64 0, .int .u64 0] t)).alloc (.cells #[.int .u64 0, .int .u64 0] t)).alloc (.cells #[.int .u64 0, .int .u64 0] t)).alloc (.cells #[.int .u64 0, .int .u64 0] t)).alloc (.cells #[.slice (some ⟨u.heap.size, 0, none⟩) 2 2, .slice (some ⟨u.heap.size + 1, 0, none⟩) 2 2, .slice (some ⟨u.heap.size + 1 + 1, 0, none⟩) 2 2, .slice (some ⟨u.heap.size + 1 + 1 + 1, 0, none⟩) 2 2] t2)) u.heap.size t (U64 [0, 0]).toArray := ((((Blk.new u t #[.int .u64 0, .int .u64 0]).alloc _).alloc _).alloc _).alloc _
  have k2 : Blk (((((u.alloc (.cells #[.int .u64 0, .int .u64 0] t)).alloc (.cells #[.int .u64 0, .int .u64 0] t)).alloc (.cells #[.int .u64 0, .int .u64 0] t)).alloc (.cells #[.int .u64 0, .int .u64 0] t)).alloc (.cells #[.slice (some ⟨u.heap.size, 0, none⟩) 2 2, .slice (some ⟨u.heap.size + 1, 0, none⟩) 2 2, .slice (some ⟨u.heap.size + 1 + 1, 0, none⟩) 2 2, .slice (some ⟨u.heap.size + 1 + 1 + 1, 0, none⟩) 2 2] t2)) (u.heap.size + 1) t (U64 [0, 0]).toArray := by
    have h : Blk ((u.alloc (.cells #[.int .u64 0, .int .u64 0] t)).alloc (.cells #[.int .u64 0, .int .u64 0] t)) (u.heap.size + 1) t #[.int .u64 0, .int .u64 0] := by simpa using Blk.new (u.alloc (.cells #[.int .u64 0, .int .u64 0] t)) t #[.int .u64 0, .int .u64 0]
    exact ((h.alloc _).alloc _).alloc _
  have k3 : Blk (((((u.alloc (.cells #[.int .u64 0, .int .u64 0] t)).alloc (.cells #[.int .u64 0, .int .u64 0] t)).alloc (.cells #[.int .u64 0, .int .u64 0] t)).alloc (.cells #[.int .u64 0, .int .u64 0] t)).alloc (.cells #[.slice (some ⟨u.heap.size, 0, none⟩) 2 2, .slice (some ⟨u.heap.size + 1, 0, none⟩) 2 2, .slice (some ⟨u.heap.size + 1 + 1, 0, none⟩) 2 2, .slice (some ⟨u.heap.size + 1 + 1 + 1, 0, none⟩) 2 2] t2)) (u.heap.size + 1 + 1) t (U64 [0, 0]).toArray := by
    have h : Blk (((u.alloc (.cells #[.int .u64 0, .int .u64 0] t)).alloc (.cells #[.int .u64 0, .int .u64 0] t)).alloc (.cells #[.int .u64 0, .int .u64 0] t)) (u.heap.size + 1 + 1) t #[.int .u64 0, .int .u64 0] := by simpa using Blk.new ((u.alloc (.cells #[.int .u64 0, .int .u64 0] t)).alloc (.cells #[.int .u64 0, .int .u64 0] t)) t #[.int .u64 0, .int .u64 0]
    exact (h.alloc _).alloc _
  have k4 : Blk (((((u.alloc (.cells #[.int .u64 0, .int .u64 0] t)).alloc (.cells #[.int .u64 0, .int .u64 0] t)).alloc (.cells #[.int .u64 0, .int .u64 0] t)).alloc (.cells #[.int .u64 0, .int .u64 0] t)).alloc (.cells #[.slice (some ⟨u.heap.size, 0, none⟩) 2 2, .slice (some ⟨u.heap.size + 1, 0, none⟩) 2 2, .slice (some ⟨u.heap.size + 1 + 1, 0, none⟩) 2 2, .slice (some ⟨u.heap.size + 1 + 1 + 1, 0, none⟩) 2 2] t2)) (u.heap.size + 1 + 1 + 1) t (U64 [0, 0]).toArray := by
    have h : Blk ((((u.alloc (.cells #[.int .u64 0, .int .u64 0] t)).alloc (.cells #[.int .u64 0, .int .u64 0] t)).alloc (.cells #[.int .u64 0, .int .u64 0] t)).alloc (.cells #[.int .u64 0, .int .u64 0] t)) (u.heap.size + 1 + 1 + 1) t #[.int .u64 0, .int .u64 0] := by simpa using Blk.new (((u.alloc (.cells #[.int .u64 0, .int .u64 0] t)).alloc (.cells #[.int .u64 0, .int .u64 0] t)).alloc (.cells #[.int .u64 0, .int .u64 0] t)) t #[.int .u64 0, .int .u64 0]
    exact h.alloc _
  have k5 : Blk (((((u.alloc (.cells #[.int .u64 0, .int .u64 0] t)).alloc (.cells #[.int .u64 0, .int .u64 0] t)).alloc (.cells #[.int .u64 0, .int .u64 0] t)).alloc (.cells #[.int .u64 0, .int .u64 0] t)).alloc (.cells #[.slice (some ⟨u.heap.size, 0, none⟩) 2 2, .slice (some ⟨u.heap.size + 1, 0, none⟩) 2 2, .slice (some ⟨u.heap.size + 1 + 1, 0, none⟩) 2 2, .slice (some ⟨u.heap.size + 1 + 1 + 1, 0, none⟩) 2 2] t2)) (u.heap.size + 1 + 1 + 1 + 1) t2 #[.slice (some ⟨u.heap.size, 0, none⟩) 2 2, .slice (some ⟨u.heap.size + 1, 0, none⟩) 2 2, .slice (some ⟨u.heap.size + 1 + 1, 0, none⟩) 2 2, .slice (some ⟨u.heap.size + 1 + 1 + 1, 0, none⟩) 2 2] := by
    simpa using Blk.new ((((u.alloc (.cells #[.int .u64 0, .int .u64 0] t)).alloc (.cells #[.int .u64 0, .int .u64 0] t)).alloc (.cells #[.int .u64 0, .int .u64 0] t)).alloc (.cells #[.int .u64 0, .int .u64 0] t)) t2 #[.slice (some ⟨u.heap.size, 0, none⟩) 2 2, .slice (some ⟨u.heap.size + 1, 0, none⟩) 2 2, .slice (some ⟨u.heap.size + 1 + 1, 0, none⟩) 2 2, .slice (some ⟨u.heap.size + 1 + 1 + 1, 0, none⟩) 2 2]
  refine ⟨frows_done (N := 0) (gb := none) (f := fun _ => [0, 0]) (fun k hk => ?_) k5 (by simp [maxLen]), ((((((Below.refl _ u).alloc (Nat.le_refl _) _).alloc (by simp) _).alloc (by simp; omega) _).alloc (by simp; omega) _).alloc (by simp; omega) _)⟩
  have h : ∀ {b : Nat}, Blk (((((u.alloc (.cells #[.int .u64 0, .int .u64 0] t)).alloc (.cells #[.int .u64 0, .int .u64 0] t)).alloc (.cells #[.int .u64 0, .int .u64 0] t)).alloc (.cells #[.int .u64 0, .int .u64 0] t)).alloc (.cells #[.slice (some ⟨u.heap.size, 0, none⟩) 2 2, .slice (some ⟨u.heap.size + 1, 0, none⟩) 2 2, .slice (some ⟨u.heap.size + 1 + 1, 0, none⟩) 2 2, .slice (some ⟨u.heap.size + 1 + 1 + 1, 0, none⟩) 2 2] t2)) b t (U64 [0, 0]).toArray → RWx 0 none (((((u.alloc (.cells #[.int .u64 0, .int .u64 0] t)).alloc (.cells #[.int .u64 0, .int .u64 0] t)).alloc (.cells #[.int .u64 0, .int .u64 0] t)).alloc (.cells #[.int .u64 0, .int .u64 0] t)).alloc (.cells #[.slice (some ⟨u.heap.size, 0, none⟩) 2 2, .slice (some ⟨u.heap.size + 1, 0, none⟩) 2 2, .slice (some ⟨u.heap.size + 1 + 1, 0, none⟩) 2 2, .slice (some ⟨u.heap.size + 1 + 1 + 1, 0, none⟩) 2 2] t2)) (.slice (some ⟨b, 0, none⟩) 2 2) [0, 0] := fun k => rwx_blkn k rfl (by decide) (by simp [maxLen]) (Nat.zero_le _) (fun e => by cases e)
  have : k = 0 ∨ k = 1 ∨ k = 2 ∨ k = 3 := by omega
  rcases this with rfl | rfl | rfl | rfl
  · exact ⟨_, rfl, h k1⟩
  · exact ⟨_, rfl, h k2⟩
  · exact ⟨_, rfl, h k3⟩
  · exact ⟨_, rfl, h k4⟩
theorem aw_coins : coinsOk lay1 [[0], [0], [0], [0]] [0, 0, 0] [0, 0, 0] [0, 0, 0] [0, 0, 0, 0, 0, 0, 0, 0] = true := by decide +kernel
theorem aw_code : (List.range 3).map (pcF 97 3 5 (fun k => [0, 0, 0].getD k 0) (ansRow lay1 [[0, 0], [0, 0], [0, 0], [0, 0]] [[0], [0], [0], [0]]) 4) = [0, 0, 0] := by decide +kernel
theorem aw_lin : (List.range 4).map (plF 97 4 (fun k => (mlinP lay1 [0, 0, 0]).getD k 0) (ansD lay1 (coefP lay1 0 6 [row1]) [[0, 0], [0, 0], [0, 0], [0, 0]] [[0], [0], [0], [0]]) 4) = [0, 0, 0, 0] := by decide +kernel
theorem aw_quad : (List.range 5).map (pqF 97 3 5 7 (vanP 97 2 [0, 0, 0] 3) (ansXY lay1 [[0, 0], [0, 0], [0, 0], [0, 0]] [[0], [0], [0], [0]]) (ansZ lay1 [[0, 0], [0, 0], [0, 0], [0, 0]] [[0], [0], [0], [0]]) 1) = [0, 0, 0, 0, 0] := by decide +kernel
theorem aw_col : colOk lay1 (coefD lay1 0 6 [row1]) 5 7 [0, 0, 0] [0, 0, 0, 0] [0, 0, 0, 0, 0] 3 [0, 0, 0, 0, 0, 0, 0] = true := by decide +kernel
theorem aw_not : colOk lay1 (coefD lay1 0 6 [row1]) 5 7 [0, 0, 0] [0, 0, 0, 0] [0, 0, 0, 0, 0] 3 [0, 0, 0, 0, 0, 1, 0] = false := by decide +kernel
theorem aw_tf : TabFor lay1 0 2 [row1] := ⟨rfl, by decide, by decide⟩
theorem aw_vo : VarsOk 2 [row1] := varsOk_of tab1_ok
theorem zero_rwd {w : World} {g n : Nat} {l : List Nat} (k : Blk w g 22 (fillC n fun _ => 0)) (h : (List.range n).map (fun _ => 0) = l) (hn : n ≤ 100) : RWd w [.slice (some ⟨g, 0, none⟩) n n] l := by
  rw [← h]
  exact fill_rwd k (fun _ _ => by decide) (by simp [maxLen]; omega)
set_option maxRecDepth 100000 in
set_option maxHeartbeats 3000000 in
theorem awake26_any (w : World) : Calls Tryz.prog 10 #[] w fun e w' => e = .returned (.bool true) ∧ Below w.heap.size w w' := by
  have HN := Lib.hid (fun A n c w hr => pNew_any 97 0 2 A n c [row1] 2 1 1 w hr tab1_ok)
  unfold newArgs tabV at HN
  have HSq := Lib.hid (fun w => square_any w)
  have HTo : Hid (∀ w : World, Calls Tryz.prog 33 #[.agg #[.int .u64 97, .int .i64 2, .int .i64 1, .int .i64 3, .int .i64 8, .int .i64 1, .int .i64 1, .int .i64 1, .int .i64 1, .int .i64 1, .int .i64 1]] w fun e w' => e = .returned (.int .i64 4) ∧ Below w.heap.size w w') := Lib.hid (fun w => pTotal_any 97 2 1 3 8 1 1 1 1 1 1 w (by decide) (by decide) (by decide) (by decide))
  have HVa : Hid (∀ A0 A1 A2 A3 A4 w, RRows w [.slice A0 4 4] [[0], [0], [0], [0]] → RWd w [.slice A1 3 3] [0, 0, 0] → RWd w [.slice A2 3 3] [0, 0, 0] → RWd w [.slice A3 3 3] [0, 0, 0] → RWd w [.slice A4 8 8] [0, 0, 0, 0, 0, 0, 0, 0] → Calls Tryz.prog 35 #[.agg #[.int .u64 97, .int .i64 2, .int .i64 1, .int .i64 3, .int .i64 8, .int .i64 1, .int .i64 1, .int .i64 1, .int .i64 1, .int .i64 1, .int .i64 1], .agg #[.slice A0 4 4, .slice A1 3 3, .slice A2 3 3, .slice A3 3 3, .slice A4 8 8]] w fun e w' => e = .returned (.bool true) ∧ Below w.heap.size w w') := Lib.hid (fun A0 A1 A2 A3 A4 w h0 h1 h2 h3 h4 => by have := mValid_any lay1 A0 A1 A2 A3 A4 4 4 3 3 3 3 3 3 8 8 _ _ _ _ _ w lay1_ok h0 h1 h2 h3 h4; rw [aw_coins] at this; exact this)
  have HAn : Hid (∀ A AM D0 D1 D2 D3 D4 w, RSl 3 RRow w [.slice A 1 1] [row1] → RRows w [.slice AM 4 4] [[0, 0], [0, 0], [0, 0], [0, 0]] → RRows w [.slice D0 4 4] [[0], [0], [0], [0]] → RWd w [.slice D1 3 3] [0, 0, 0] → RWd w [.slice D2 3 3] [0, 0, 0] → RWd w [.slice D3 3 3] [0, 0, 0] → RWd w [.slice D4 8 8] [0, 0, 0, 0, 0, 0, 0, 0] → Calls Tryz.prog 34 #[.agg #[.int .u64 97, .int .i64 2, .int .i64 1, .int .i64 3, .int .i64 8, .int .i64 1, .int .i64 1, .int .i64 1, .int .i64 1, .int .i64 1, .int .i64 1], .agg #[.int .u64 97, .int .i64 0, .int .i64 2, .slice A 1 1], .slice AM 4 4, .agg #[.slice D0 4 4, .slice D1 3 3, .slice D2 3 3, .slice D3 3 3, .slice D4 8 8], .agg #[.int .u64 5, .int .u64 6, .int .u64 7]] w fun e w' => ∃ v1 v2 v3, e = .returned (.tuple #[v1, v2, v3]) ∧ RWd w' [v1] [0, 0, 0] ∧ RWd w' [v2] [0, 0, 0, 0] ∧ RWd w' [v3] [0, 0, 0, 0, 0] ∧ Below w.heap.size w w') := Lib.hid (fun A AM D0 D1 D2 D3 D4 w hr hm h0 h1 h2 h3 h4 => by
    refine (pAnswer_any lay1 0 6 5 7 2 A AM D0 D1 D2 D3 D4 1 1 4 4 4 3 3 3 8 4 3 3 3 8 [row1] _ _ _ _ _ _ w lay1_ok aw_tf hr aw_vo hm h0 h1 h2 h3 h4 aw_coins rfl (by intro x hx; simp at hx; subst hx; rfl)).mono ?_
    rintro e w' ⟨v1, v2, v3, rfl, o1, o2, o3, hb⟩
    have p1 : w'.ownsRow w.heap.size 22 1 v1 3 (U64 ((List.range 3).map (pcF 97 3 5 (fun k => [0, 0, 0].getD k 0) (ansRow lay1 [[0, 0], [0, 0], [0, 0], [0, 0]] [[0], [0], [0], [0]]) 4))) := o1
    have p2 : w'.ownsRow w.heap.size 22 1 v2 4 (U64 ((List.range 4).map (plF 97 4 (fun k => (mlinP lay1 [0, 0, 0]).getD k 0) (ansD lay1 (coefP lay1 0 6 [row1]) [[0, 0], [0, 0], [0, 0], [0, 0]] [[0], [0], [0], [0]]) 4))) := o2
    have p3 : w'.ownsRow w.heap.size 22 1 v3 5 (U64 ((List.range 5).map (pqF 97 3 5 7 (vanP 97 2 [0, 0, 0] 3) (ansXY lay1 [[0, 0], [0, 0], [0, 0], [0, 0]] [[0], [0], [0], [0]]) (ansZ lay1 [[0, 0], [0, 0], [0, 0], [0, 0]] [[0], [0], [0], [0]]) 1))) := o3
    rw [aw_code] at p1
    rw [aw_lin] at p2
    rw [aw_quad] at p3
    obtain ⟨A1, c1, rfl, q1⟩ := rwd_own26 p1 (by decide)
    obtain ⟨A2, c2, rfl, q2⟩ := rwd_own26 p2 (by decide)
    obtain ⟨A3, c3, rfl, q3⟩ := rwd_own26 p3 (by decide)
    exact ⟨_, _, _, rfl, q1, q2, q3, hb⟩)
  have HCo : Hid (∀ A B1 B2 B3 F c1 c2 c3 v b w, RSl 3 RRow w [.slice A 1 1] [row1] → RWd w [.slice B1 3 c1] [0, 0, 0] → RWd w [.slice B2 4 c2] [0, 0, 0, 0] → RWd w [.slice B3 5 c3] [0, 0, 0, 0, 0] → RWd w [.slice F 7 7] v → colOk lay1 (coefD lay1 0 6 [row1]) 5 7 [0, 0, 0] [0, 0, 0, 0] [0, 0, 0, 0, 0] 3 v = b → Calls Tryz.prog 36 #[.agg #[.int .u64 97, .int .i64 2, .int .i64 1, .int .i64 3, .int .i64 8, .int .i64 1, .int .i64 1, .int .i64 1, .int .i64 1, .int .i64 1, .int .i64 1], .agg #[.int .u64 97, .int .i64 0, .int .i64 2, .slice A 1 1], .agg #[.int .u64 5, .int .u64 6, .int .u64 7], .slice B1 3 c1, .slice B2 4 c2, .slice B3 5 c3, .int .i64 3, .slice F 7 7] w fun e w' => e = .returned (.bool b) ∧ Below w.heap.size w w') := Lib.hid (fun A B1 B2 B3 F c1 c2 c3 v b w hr h1 h2 h3 hv hb => by have := pColumn_any lay1 0 6 5 7 2 3 A B1 B2 B3 F 1 1 3 c1 4 c2 5 c3 7 7 [row1] _ _ _ v w lay1_ok aw_tf hr aw_vo h1 h2 h3 hv; rw [hb] at this; exact this)
  have HS := Lib.hid (fun A1 A2 n1 c1 n2 c2 l1 l2 w h1 h2 => rSame01_any A1 A2 n1 c1 n2 c2 l1 l2 w h1 h2)
  go_enter Tryz.func10, Tryz.ntmps10
  go_wp2_with fail
  refine (HSq.out _).mono ?_
  rintro e w1 ⟨gt, rfl, hr, hb0⟩
  go_upto_region 2 with fail
  have kt := Blk.new w1 25 #[.int .u64 97, .int .i64 0, .int .i64 2, .slice (some ⟨gt, 0, none⟩) 1 1]
  have hal := (Below.refl w1.heap.size w1).alloc (Nat.le_refl _) (.cells #[.int .u64 97, .int .i64 0, .int .i64 2, .slice (some ⟨gt, 0, none⟩) 1 1] 25)
  replace hr := kept_RSl kept_RRow _ _ _ _ hal hr
  replace hb0 := below_chain hb0 hal
  clear hal
  generalize w1.alloc _ = w2 at kt hr hb0 ⊢
  generalize w1.heap.size = bt at kt ⊢
  have ct := kt.cell
  go_wp2_with fail
  refine (HN.out _ _ _ _ hr).mono ?_
  rintro e w3 ⟨hpost, hb3⟩
  obtain ⟨rfl, hL⟩ := new1_post hpost
  replace hr := kept_RSl kept_RRow _ _ _ _ hb3 hr
  replace kt := kt.below hb3 kt.lt
  replace hb0 := below_chain hb0 hb3
  clear hb3 ct hpost hL HN HSq
  rw [lay1_cs]
  go_upto_region 3 with fail
  have kl := Blk.new w3 55 #[.int .u64 97, .int .i64 2, .int .i64 1, .int .i64 3, .int .i64 8, .int .i64 1, .int .i64 1, .int .i64 1, .int .i64 1, .int .i64 1, .int .i64 1]
  have hal := (Below.refl w3.heap.size w3).alloc (Nat.le_refl _) (.cells #[.int .u64 97, .int .i64 2, .int .i64 1, .int .i64 3, .int .i64 8, .int .i64 1, .int .i64 1, .int .i64 1, .int .i64 1, .int .i64 1, .int .i64 1] 55)
  replace hr := kept_RSl kept_RRow _ _ _ _ hal hr
  replace kt := kt.below hal kt.lt
  replace hb0 := below_chain hb0 hal
  clear hal
  generalize w3.alloc _ = w4 at kt kl hr hb0 ⊢
  generalize w3.heap.size = bl at kl ⊢
  have cl := kl.cell
  go_wp2_with fail
  refine (HTo.out _).mono ?_
  rintro e w5 ⟨rfl, hb5⟩
  replace hr := kept_RSl kept_RRow _ _ _ _ hb5 hr
  replace kt := kt.below hb5 kt.lt
  replace kl := kl.below hb5 kl.lt
  replace hb0 := below_chain hb0 hb5
  clear hb5 cl HTo
  have mk3 : ∀ w : World, (Instr.makeSlice 28 (.int .i64 3) (.int .i64 3)).run Tryz.prog w = .ok (.slice (some ⟨w.heap.size, 0, none⟩) 3 3) (w.alloc (.cells (fillC 3 fun _ => 0) 22)) := fun w => mk_words 3 (by decide) w
  have mk8 : ∀ w : World, (Instr.makeSlice 28 (.int .i64 8) (.int .i64 8)).run Tryz.prog w = .ok (.slice (some ⟨w.heap.size, 0, none⟩) 8 8) (w.alloc (.cells (fillC 8 fun _ => 0) 22)) := fun w => mk_words 8 (by decide) w
  go_upto_region 5 with fail
  refine wpL_begin (From w5.heap.size) [] 12 (by kernel_rfl) (by kernel_rfl) ?_
  refine wpL_startK (from_moves w5.heap.size) ?_
  intro Wc HWc hacc
  repeat (first | (refine wpL_skip (from_moves w5.heap.size) rfl rfl (fun _ _ _ h => h) ?_ ; simp only [Act.put, List.setIfInBounds_toArray, List.set_cons_zero, List.set_cons_succ]) | (refine wpL_light (v := ?_) (from_moves w5.heap.size) rfl rfl (fun _ _ _ h => h) ?_ ?_ ; rotate_left ; (· (intro w' hR ; (first | have hcells := from_cellsD ((from_moves w5.heap.size).trans _ _ _ hacc hR) | skip) ; go_simp ; try with_reducible rfl)) ; simp only [Act.put, List.setIfInBounds_toArray, List.set_cons_zero, List.set_cons_succ]))
  have hbW : Below w5.heap.size w5 Wc := by rw [HWc.out]; exact (Below.refl _ _).drew
  have hNc : w5.heap.size ≤ Wc.heap.size := hbW.size
  refine wpL_own (from_moves w5.heap.size) [⟨0, [], []⟩, ⟨1, [], []⟩, ⟨2, [], []⟩, ⟨3, [], []⟩, ⟨4, [0, 1, 2, 3], []⟩, ⟨5, [], []⟩, ⟨6, [], []⟩, ⟨7, [], []⟩, ⟨8, [], []⟩, ⟨9, [4, 5, 6, 7, 8], []⟩, ⟨10, [], []⟩] [(0, BlkAt 22 (fun _ => #[.int .u64 0]) (mkS 1) 0), (1, BlkAt 22 (fun _ => #[.int .u64 0]) (mkS 1) 1), (2, BlkAt 22 (fun _ => #[.int .u64 0]) (mkS 1) 2), (3, BlkAt 22 (fun _ => #[.int .u64 0]) (mkS 1) 3), (4, BlkAt 28 (fun vs => #[vs 0, vs 1, vs 2, vs 3]) (mkS 4) 4), (5, BlkAt 22 (fun _ => fillC 3 fun _ => 0) (mkS 3) 5), (6, BlkAt 22 (fun _ => fillC 3 fun _ => 0) (mkS 3) 6), (7, BlkAt 22 (fun _ => fillC 3 fun _ => 0) (mkS 3) 7), (8, BlkAt 22 (fun _ => fillC 8 fun _ => 0) (mkS 8) 8), (9, ValAt (fun vs => .agg #[vs 4, vs 5, vs 6, vs 7, vs 8]) 9), (10, BlkAt 42 (fun _ => #[.slice none 0 0, .slice none 0 0, .slice none 0 0, .slice none 0 0, .slice none 0 0]) mkP 10)] [(some 35, 0), (some 36, 1), (some 37, 2), (some 38, 3), (some 39, 4), (some 40, 5), (some 41, 6), (some 42, 7), (some 43, 8), (some 44, 9), (some 4, 10)] [11] [11] (by kernel_rfl) (by kernel_rfl) (by first | exact Nat.le_refl _ | omega) (fun w1 h1 => h1) ?_ ?_ ?_
  · exact List.forall_mem_cons.2 ⟨stays_blk rfl (fun _ _ _ => rfl), List.forall_mem_cons.2 ⟨stays_blk rfl (fun _ _ _ => rfl), List.forall_mem_cons.2 ⟨stays_blk rfl (fun _ _ _ => rfl), List.forall_mem_cons.2 ⟨stays_blk rfl (fun _ _ _ => rfl), List.forall_mem_cons.2 ⟨stays_blk rfl (fun vs us h => by simp only [h 0 (by decide), h 1 (by decide), h 2 (by decide), h 3 (by decide)]), List.forall_mem_cons.2 ⟨stays_blk rfl (fun _ _ _ => rfl), List.forall_mem_cons.2 ⟨stays_blk rfl (fun _ _ _ => rfl), List.forall_mem_cons.2 ⟨stays_blk rfl (fun _ _ _ => rfl), List.forall_mem_cons.2 ⟨stays_blk rfl (fun _ _ _ => rfl), List.forall_mem_cons.2 ⟨stays_val rfl (fun vs us h => by simp only [h 4 (by decide), h 5 (by decide), h 6 (by decide), h 7 (by decide), h 8 (by decide)]), List.forall_mem_cons.2 ⟨stays_blk rfl (fun _ _ _ => rfl), List.forall_mem_nil _⟩⟩⟩⟩⟩⟩⟩⟩⟩⟩⟩
  · refine List.forall_mem_cons.2 ⟨?_, List.forall_mem_cons.2 ⟨?_, List.forall_mem_cons.2 ⟨?_, List.forall_mem_cons.2 ⟨?_, List.forall_mem_cons.2 ⟨?_, List.forall_mem_cons.2 ⟨?_, List.forall_mem_cons.2 ⟨?_, List.forall_mem_cons.2 ⟨?_, List.forall_mem_cons.2 ⟨?_, List.forall_mem_cons.2 ⟨?_, List.forall_mem_cons.2 ⟨?_, List.forall_mem_nil _⟩⟩⟩⟩⟩⟩⟩⟩⟩⟩⟩
    · refine task_mk [] rfl (by kernel_rfl) ?_
      intro w1 vs F hb1 hd hdis
      clear hd
      unfold puts
      simp only [List.foldl]
      change Does _ _ _ fun v w' => Near _ w1 w' F [] ∧ BlkAt 22 (fun _ => #[.int .u64 0]) (mkS 1) 0 (upd vs 0 v) (Grown w1 w' F []) w'
      have hB1 := Nat.le_trans hNc hb1.size
      exact does_val (v := .slice (some ⟨w1.heap.size, 0, none⟩) 1 1) (w' := w1.alloc (.cells #[.int .u64 0] 22)) (by go_simp <;> rfl) ⟨near_below ((Below.refl _ _).alloc (Nat.le_refl _) _) hB1 _ _, blk_of (Blk.new _ _ _) (Nat.le_refl _)⟩
    · refine task_mk [] rfl (by kernel_rfl) ?_
      intro w1 vs F hb1 hd hdis
      clear hd
      unfold puts
      simp only [List.foldl]
      change Does _ _ _ fun v w' => Near _ w1 w' F [] ∧ BlkAt 22 (fun _ => #[.int .u64 0]) (mkS 1) 1 (upd vs 1 v) (Grown w1 w' F []) w'
      have hB1 := Nat.le_trans hNc hb1.size
      exact does_val (v := .slice (some ⟨w1.heap.size, 0, none⟩) 1 1) (w' := w1.alloc (.cells #[.int .u64 0] 22)) (by go_simp <;> rfl) ⟨near_below ((Below.refl _ _).alloc (Nat.le_refl _) _) hB1 _ _, blk_of (Blk.new _ _ _) (Nat.le_refl _)⟩
    · refine task_mk [] rfl (by kernel_rfl) ?_
      intro w1 vs F hb1 hd hdis
      clear hd
      unfold puts
      simp only [List.foldl]
      change Does _ _ _ fun v w' => Near _ w1 w' F [] ∧ BlkAt 22 (fun _ => #[.int .u64 0]) (mkS 1) 2 (upd vs 2 v) (Grown w1 w' F []) w'
      have hB1 := Nat.le_trans hNc hb1.size
      exact does_val (v := .slice (some ⟨w1.heap.size, 0, none⟩) 1 1) (w' := w1.alloc (.cells #[.int .u64 0] 22)) (by go_simp <;> rfl) ⟨near_below ((Below.refl _ _).alloc (Nat.le_refl _) _) hB1 _ _, blk_of (Blk.new _ _ _) (Nat.le_refl _)⟩
    · refine task_mk [] rfl (by kernel_rfl) ?_
      intro w1 vs F hb1 hd hdis
      clear hd
      unfold puts
      simp only [List.foldl]
      change Does _ _ _ fun v w' => Near _ w1 w' F [] ∧ BlkAt 22 (fun _ => #[.int .u64 0]) (mkS 1) 3 (upd vs 3 v) (Grown w1 w' F []) w'
      have hB1 := Nat.le_trans hNc hb1.size
      exact does_val (v := .slice (some ⟨w1.heap.size, 0, none⟩) 1 1) (w' := w1.alloc (.cells #[.int .u64 0] 22)) (by go_simp <;> rfl) ⟨near_below ((Below.refl _ _).alloc (Nat.le_refl _) _) hB1 _ _, blk_of (Blk.new _ _ _) (Nat.le_refl _)⟩
    · refine task_mk [(some 35, 0), (some 36, 1), (some 37, 2), (some 38, 3)] rfl (by kernel_rfl) ?_
      intro w1 vs F hb1 hd hdis
      have d0 : BlkAt 22 (fun _ => #[.int .u64 0]) (mkS 1) 0 vs (F 0) w1 ∧ ∀ b, F 0 b → b < w1.heap.size ∧ _ ≤ b := hd 0 (by decide)
      have d1 : BlkAt 22 (fun _ => #[.int .u64 0]) (mkS 1) 1 vs (F 1) w1 ∧ ∀ b, F 1 b → b < w1.heap.size ∧ _ ≤ b := hd 1 (by decide)
      have d2 : BlkAt 22 (fun _ => #[.int .u64 0]) (mkS 1) 2 vs (F 2) w1 ∧ ∀ b, F 2 b → b < w1.heap.size ∧ _ ≤ b := hd 2 (by decide)
      have d3 : BlkAt 22 (fun _ => #[.int .u64 0]) (mkS 1) 3 vs (F 3) w1 ∧ ∀ b, F 3 b → b < w1.heap.size ∧ _ ≤ b := hd 3 (by decide)
      clear hd
      unfold puts
      simp only [List.foldl]
      change Does _ _ _ fun v w' => Near _ w1 w' F [] ∧ BlkAt 28 (fun vs => #[vs 0, vs 1, vs 2, vs 3]) (mkS 4) 4 (upd vs 4 v) (Grown w1 w' F []) w'
      have hB1 := Nat.le_trans hNc hb1.size
      obtain ⟨g0, e0, -⟩ := d0.1
      obtain ⟨g1, e1, -⟩ := d1.1
      obtain ⟨g2, e2, -⟩ := d2.1
      obtain ⟨g3, e3, -⟩ := d3.1
      exact does_val (v := .slice (some ⟨w1.heap.size, 0, none⟩) 4 4) (w' := w1.alloc (.cells #[vs 0, vs 1, vs 2, vs 3] 28)) (by rw [e0, e1, e2, e3]; go_simp <;> rfl) ⟨near_below ((Below.refl _ _).alloc (Nat.le_refl _) _) hB1 _ _, blk_of (show Blk _ _ _ #[vs 0, vs 1, vs 2, vs 3] from Blk.new _ _ _) (Nat.le_refl _)⟩
    · refine task_mk [] rfl (by kernel_rfl) ?_
      intro w1 vs F hb1 hd hdis
      clear hd
      unfold puts
      simp only [List.foldl]
      change Does _ _ _ fun v w' => Near _ w1 w' F [] ∧ BlkAt 22 (fun _ => fillC 3 fun _ => 0) (mkS 3) 5 (upd vs 5 v) (Grown w1 w' F []) w'
      have hB1 := Nat.le_trans hNc hb1.size
      exact does_val (v := .slice (some ⟨w1.heap.size, 0, none⟩) 3 3) (w' := w1.alloc (.cells (fillC 3 fun _ => 0) 22)) (by go_simp <;> rfl) ⟨near_below ((Below.refl _ _).alloc (Nat.le_refl _) _) hB1 _ _, blk_of (Blk.new _ _ _) (Nat.le_refl _)⟩
    · refine task_mk [] rfl (by kernel_rfl) ?_
      intro w1 vs F hb1 hd hdis
      clear hd
      unfold puts
      simp only [List.foldl]
      change Does _ _ _ fun v w' => Near _ w1 w' F [] ∧ BlkAt 22 (fun _ => fillC 3 fun _ => 0) (mkS 3) 6 (upd vs 6 v) (Grown w1 w' F []) w'
      have hB1 := Nat.le_trans hNc hb1.size
      exact does_val (v := .slice (some ⟨w1.heap.size, 0, none⟩) 3 3) (w' := w1.alloc (.cells (fillC 3 fun _ => 0) 22)) (by go_simp <;> rfl) ⟨near_below ((Below.refl _ _).alloc (Nat.le_refl _) _) hB1 _ _, blk_of (Blk.new _ _ _) (Nat.le_refl _)⟩
    · refine task_mk [] rfl (by kernel_rfl) ?_
      intro w1 vs F hb1 hd hdis
      clear hd
      unfold puts
      simp only [List.foldl]
      change Does _ _ _ fun v w' => Near _ w1 w' F [] ∧ BlkAt 22 (fun _ => fillC 3 fun _ => 0) (mkS 3) 7 (upd vs 7 v) (Grown w1 w' F []) w'
      have hB1 := Nat.le_trans hNc hb1.size
      exact does_val (v := .slice (some ⟨w1.heap.size, 0, none⟩) 3 3) (w' := w1.alloc (.cells (fillC 3 fun _ => 0) 22)) (by go_simp <;> rfl) ⟨near_below ((Below.refl _ _).alloc (Nat.le_refl _) _) hB1 _ _, blk_of (Blk.new _ _ _) (Nat.le_refl _)⟩
    · refine task_mk [] rfl (by kernel_rfl) ?_
      intro w1 vs F hb1 hd hdis
      clear hd
      unfold puts
      simp only [List.foldl]
      change Does _ _ _ fun v w' => Near _ w1 w' F [] ∧ BlkAt 22 (fun _ => fillC 8 fun _ => 0) (mkS 8) 8 (upd vs 8 v) (Grown w1 w' F []) w'
      have hB1 := Nat.le_trans hNc hb1.size
      exact does_val (v := .slice (some ⟨w1.heap.size, 0, none⟩) 8 8) (w' := w1.alloc (.cells (fillC 8 fun _ => 0) 22)) (by go_simp <;> rfl) ⟨near_below ((Below.refl _ _).alloc (Nat.le_refl _) _) hB1 _ _, blk_of (Blk.new _ _ _) (Nat.le_refl _)⟩
    · refine task_mk [(some 39, 4), (some 40, 5), (some 41, 6), (some 42, 7), (some 43, 8)] rfl (by kernel_rfl) ?_
      intro w1 vs F hb1 hd hdis
      have d4 : BlkAt 28 (fun vs => #[vs 0, vs 1, vs 2, vs 3]) (mkS 4) 4 vs (F 4) w1 ∧ ∀ b, F 4 b → b < w1.heap.size ∧ _ ≤ b := hd 4 (by decide)
      have d5 : BlkAt 22 (fun _ => fillC 3 fun _ => 0) (mkS 3) 5 vs (F 5) w1 ∧ ∀ b, F 5 b → b < w1.heap.size ∧ _ ≤ b := hd 5 (by decide)
      have d6 : BlkAt 22 (fun _ => fillC 3 fun _ => 0) (mkS 3) 6 vs (F 6) w1 ∧ ∀ b, F 6 b → b < w1.heap.size ∧ _ ≤ b := hd 6 (by decide)
      have d7 : BlkAt 22 (fun _ => fillC 3 fun _ => 0) (mkS 3) 7 vs (F 7) w1 ∧ ∀ b, F 7 b → b < w1.heap.size ∧ _ ≤ b := hd 7 (by decide)
      have d8 : BlkAt 22 (fun _ => fillC 8 fun _ => 0) (mkS 8) 8 vs (F 8) w1 ∧ ∀ b, F 8 b → b < w1.heap.size ∧ _ ≤ b := hd 8 (by decide)
      clear hd
      unfold puts
      simp only [List.foldl]
      change Does _ _ _ fun v w' => Near _ w1 w' F [] ∧ ValAt (fun vs => .agg #[vs 4, vs 5, vs 6, vs 7, vs 8]) 9 (upd vs 9 v) (Grown w1 w' F []) w'
      obtain ⟨g4, e4, -⟩ := d4.1
      obtain ⟨g5, e5, -⟩ := d5.1
      obtain ⟨g6, e6, -⟩ := d6.1
      obtain ⟨g7, e7, -⟩ := d7.1
      obtain ⟨g8, e8, -⟩ := d8.1
      exact does_val (v := .agg #[vs 4, vs 5, vs 6, vs 7, vs 8]) (w' := w1) (by rw [e4, e5, e6, e7, e8]; go_simp <;> rfl) ⟨near_same _ _ _ _, rfl⟩
    · refine task_mk [] rfl (by kernel_rfl) ?_
      intro w1 vs F hb1 hd hdis
      clear hd
      unfold puts
      simp only [List.foldl]
      change Does _ _ _ fun v w' => Near _ w1 w' F [] ∧ BlkAt 42 (fun _ => #[.slice none 0 0, .slice none 0 0, .slice none 0 0, .slice none 0 0, .slice none 0 0]) mkP 10 (upd vs 10 v) (Grown w1 w' F []) w'
      have hB1 := Nat.le_trans hNc hb1.size
      exact does_val (v := .pointer (some ⟨w1.heap.size, 0, none⟩)) (w' := w1.alloc (.cells #[.slice none 0 0, .slice none 0 0, .slice none 0 0, .slice none 0 0, .slice none 0 0] 42)) (by go_simp <;> rfl) ⟨near_below ((Below.refl _ _).alloc (Nat.le_refl _) _) hB1 _ _, blk_of (Blk.new _ _ _) (Nat.le_refl _)⟩
  intro wf vs F hbf hf hdis
  have f0 : BlkAt 22 (fun _ => #[.int .u64 0]) (mkS 1) 0 vs (F 0) wf ∧ ∀ b, F 0 b → b < wf.heap.size ∧ _ ≤ b := hf _ (.head _) (by decide)
  have f1 : BlkAt 22 (fun _ => #[.int .u64 0]) (mkS 1) 1 vs (F 1) wf ∧ ∀ b, F 1 b → b < wf.heap.size ∧ _ ≤ b := hf _ (.tail _ (.head _)) (by decide)
  have f2 : BlkAt 22 (fun _ => #[.int .u64 0]) (mkS 1) 2 vs (F 2) wf ∧ ∀ b, F 2 b → b < wf.heap.size ∧ _ ≤ b := hf _ (.tail _ (.tail _ (.head _))) (by decide)
  have f3 : BlkAt 22 (fun _ => #[.int .u64 0]) (mkS 1) 3 vs (F 3) wf ∧ ∀ b, F 3 b → b < wf.heap.size ∧ _ ≤ b := hf _ (.tail _ (.tail _ (.tail _ (.head _)))) (by decide)
  have f4 : BlkAt 28 (fun vs => #[vs 0, vs 1, vs 2, vs 3]) (mkS 4) 4 vs (F 4) wf ∧ ∀ b, F 4 b → b < wf.heap.size ∧ _ ≤ b := hf _ (.tail _ (.tail _ (.tail _ (.tail _ (.head _))))) (by decide)
  have f5 : BlkAt 22 (fun _ => fillC 3 fun _ => 0) (mkS 3) 5 vs (F 5) wf ∧ ∀ b, F 5 b → b < wf.heap.size ∧ _ ≤ b := hf _ (.tail _ (.tail _ (.tail _ (.tail _ (.tail _ (.head _)))))) (by decide)
  have f6 : BlkAt 22 (fun _ => fillC 3 fun _ => 0) (mkS 3) 6 vs (F 6) wf ∧ ∀ b, F 6 b → b < wf.heap.size ∧ _ ≤ b := hf _ (.tail _ (.tail _ (.tail _ (.tail _ (.tail _ (.tail _ (.head _))))))) (by decide)
  have f7 : BlkAt 22 (fun _ => fillC 3 fun _ => 0) (mkS 3) 7 vs (F 7) wf ∧ ∀ b, F 7 b → b < wf.heap.size ∧ _ ≤ b := hf _ (.tail _ (.tail _ (.tail _ (.tail _ (.tail _ (.tail _ (.tail _ (.head _)))))))) (by decide)
  have f8 : BlkAt 22 (fun _ => fillC 8 fun _ => 0) (mkS 8) 8 vs (F 8) wf ∧ ∀ b, F 8 b → b < wf.heap.size ∧ _ ≤ b := hf _ (.tail _ (.tail _ (.tail _ (.tail _ (.tail _ (.tail _ (.tail _ (.tail _ (.head _))))))))) (by decide)
  have f9 : ValAt (fun vs => .agg #[vs 4, vs 5, vs 6, vs 7, vs 8]) 9 vs (F 9) wf ∧ ∀ b, F 9 b → b < wf.heap.size ∧ _ ≤ b := hf _ (.tail _ (.tail _ (.tail _ (.tail _ (.tail _ (.tail _ (.tail _ (.tail _ (.tail _ (.head _)))))))))) (by decide)
  have f10 : BlkAt 42 (fun _ => #[.slice none 0 0, .slice none 0 0, .slice none 0 0, .slice none 0 0, .slice none 0 0]) mkP 10 vs (F 10) wf ∧ ∀ b, F 10 b → b < wf.heap.size ∧ _ ≤ b := hf _ (.tail _ (.tail _ (.tail _ (.tail _ (.tail _ (.tail _ (.tail _ (.tail _ (.tail _ (.tail _ (.head _))))))))))) (by decide)
  clear hf
  unfold puts
  simp only [List.foldl]
  obtain ⟨⟨g0, e0, h0, k0⟩, b0⟩ := f0
  have y0 := (b0 _ h0).2
  obtain ⟨⟨g1, e1, h1, k1⟩, b1⟩ := f1
  have y1 := (b1 _ h1).2
  obtain ⟨⟨g2, e2, h2, k2⟩, b2⟩ := f2
  have y2 := (b2 _ h2).2
  obtain ⟨⟨g3, e3, h3, k3⟩, b3⟩ := f3
  have y3 := (b3 _ h3).2
  obtain ⟨⟨g4, e4, h4, k4⟩, b4⟩ := f4
  have y4 := (b4 _ h4).2
  obtain ⟨⟨g5, e5, h5, k5⟩, b5⟩ := f5
  have y5 := (b5 _ h5).2
  obtain ⟨⟨g6, e6, h6, k6⟩, b6⟩ := f6
  have y6 := (b6 _ h6).2
  obtain ⟨⟨g7, e7, h7, k7⟩, b7⟩ := f7
  have y7 := (b7 _ h7).2
  obtain ⟨⟨g8, e8, h8, k8⟩, b8⟩ := f8
  have y8 := (b8 _ h8).2
  have e9 : vs 9 = .agg #[vs 4, vs 5, vs 6, vs 7, vs 8] := f9.1
  obtain ⟨⟨g10, e10, h10, k10⟩, b10⟩ := f10
  have y10 := (b10 _ h10).2
  have n0_1 : g0 ≠ g1 := fun e => hdis 0 1 _ (by decide) h0 (by rw [e]; exact h1)
  have n0_2 : g0 ≠ g2 := fun e => hdis 0 2 _ (by decide) h0 (by rw [e]; exact h2)
  have n0_3 : g0 ≠ g3 := fun e => hdis 0 3 _ (by decide) h0 (by rw [e]; exact h3)
  have n0_4 : g0 ≠ g4 := fun e => hdis 0 4 _ (by decide) h0 (by rw [e]; exact h4)
  have n0_5 : g0 ≠ g5 := fun e => hdis 0 5 _ (by decide) h0 (by rw [e]; exact h5)
  have n0_6 : g0 ≠ g6 := fun e => hdis 0 6 _ (by decide) h0 (by rw [e]; exact h6)
  have n0_7 : g0 ≠ g7 := fun e => hdis 0 7 _ (by decide) h0 (by rw [e]; exact h7)
  have n0_8 : g0 ≠ g8 := fun e => hdis 0 8 _ (by decide) h0 (by rw [e]; exact h8)
  have n0_10 : g0 ≠ g10 := fun e => hdis 0 10 _ (by decide) h0 (by rw [e]; exact h10)
  have n1_2 : g1 ≠ g2 := fun e => hdis 1 2 _ (by decide) h1 (by rw [e]; exact h2)
  have n1_3 : g1 ≠ g3 := fun e => hdis 1 3 _ (by decide) h1 (by rw [e]; exact h3)
  have n1_4 : g1 ≠ g4 := fun e => hdis 1 4 _ (by decide) h1 (by rw [e]; exact h4)
  have n1_5 : g1 ≠ g5 := fun e => hdis 1 5 _ (by decide) h1 (by rw [e]; exact h5)
  have n1_6 : g1 ≠ g6 := fun e => hdis 1 6 _ (by decide) h1 (by rw [e]; exact h6)
  have n1_7 : g1 ≠ g7 := fun e => hdis 1 7 _ (by decide) h1 (by rw [e]; exact h7)
  have n1_8 : g1 ≠ g8 := fun e => hdis 1 8 _ (by decide) h1 (by rw [e]; exact h8)
  have n1_10 : g1 ≠ g10 := fun e => hdis 1 10 _ (by decide) h1 (by rw [e]; exact h10)
  have n2_3 : g2 ≠ g3 := fun e => hdis 2 3 _ (by decide) h2 (by rw [e]; exact h3)
  have n2_4 : g2 ≠ g4 := fun e => hdis 2 4 _ (by decide) h2 (by rw [e]; exact h4)
  have n2_5 : g2 ≠ g5 := fun e => hdis 2 5 _ (by decide) h2 (by rw [e]; exact h5)
  have n2_6 : g2 ≠ g6 := fun e => hdis 2 6 _ (by decide) h2 (by rw [e]; exact h6)
  have n2_7 : g2 ≠ g7 := fun e => hdis 2 7 _ (by decide) h2 (by rw [e]; exact h7)
  have n2_8 : g2 ≠ g8 := fun e => hdis 2 8 _ (by decide) h2 (by rw [e]; exact h8)
  have n2_10 : g2 ≠ g10 := fun e => hdis 2 10 _ (by decide) h2 (by rw [e]; exact h10)
  have n3_4 : g3 ≠ g4 := fun e => hdis 3 4 _ (by decide) h3 (by rw [e]; exact h4)
  have n3_5 : g3 ≠ g5 := fun e => hdis 3 5 _ (by decide) h3 (by rw [e]; exact h5)
  have n3_6 : g3 ≠ g6 := fun e => hdis 3 6 _ (by decide) h3 (by rw [e]; exact h6)
  have n3_7 : g3 ≠ g7 := fun e => hdis 3 7 _ (by decide) h3 (by rw [e]; exact h7)
  have n3_8 : g3 ≠ g8 := fun e => hdis 3 8 _ (by decide) h3 (by rw [e]; exact h8)
  have n3_10 : g3 ≠ g10 := fun e => hdis 3 10 _ (by decide) h3 (by rw [e]; exact h10)
  have n4_5 : g4 ≠ g5 := fun e => hdis 4 5 _ (by decide) h4 (by rw [e]; exact h5)
  have n4_6 : g4 ≠ g6 := fun e => hdis 4 6 _ (by decide) h4 (by rw [e]; exact h6)
  have n4_7 : g4 ≠ g7 := fun e => hdis 4 7 _ (by decide) h4 (by rw [e]; exact h7)
  have n4_8 : g4 ≠ g8 := fun e => hdis 4 8 _ (by decide) h4 (by rw [e]; exact h8)
  have n4_10 : g4 ≠ g10 := fun e => hdis 4 10 _ (by decide) h4 (by rw [e]; exact h10)
  have n5_6 : g5 ≠ g6 := fun e => hdis 5 6 _ (by decide) h5 (by rw [e]; exact h6)
  have n5_7 : g5 ≠ g7 := fun e => hdis 5 7 _ (by decide) h5 (by rw [e]; exact h7)
  have n5_8 : g5 ≠ g8 := fun e => hdis 5 8 _ (by decide) h5 (by rw [e]; exact h8)
  have n5_10 : g5 ≠ g10 := fun e => hdis 5 10 _ (by decide) h5 (by rw [e]; exact h10)
  have n6_7 : g6 ≠ g7 := fun e => hdis 6 7 _ (by decide) h6 (by rw [e]; exact h7)
  have n6_8 : g6 ≠ g8 := fun e => hdis 6 8 _ (by decide) h6 (by rw [e]; exact h8)
  have n6_10 : g6 ≠ g10 := fun e => hdis 6 10 _ (by decide) h6 (by rw [e]; exact h10)
  have n7_8 : g7 ≠ g8 := fun e => hdis 7 8 _ (by decide) h7 (by rw [e]; exact h8)
  have n7_10 : g7 ≠ g10 := fun e => hdis 7 10 _ (by decide) h7 (by rw [e]; exact h10)
  have n8_10 : g8 ≠ g10 := fun e => hdis 8 10 _ (by decide) h8 (by rw [e]; exact h10)
  simp only [e0, e1, e2, e3] at k4
  try dsimp only [mkS] at k4
  simp only [e4, e5, e6, e7, e8] at e9
  simp only [e0, e1, e2, e3, e4, e5, e6, e7, e8, e9, e10]
  clear b0 b1 b2 b3 b4 b5 b6 b7 b8 f9 b10 e0 e1 e2 e3 e4 e5 e6 e7 e8 e9 e10 h0 h1 h2 h3 h4 h5 h6 h7 h8 h10
  try dsimp only [mkS]
  try dsimp only [mkP]
  have c10 := k10.frozen
  have cc10 := k10.cell
  clear hdis
  repeat (first | (refine wpO_skip (from_moves w5.heap.size) rfl rfl (fun _ _ _ h => h) ?_ ; simp only [Act.put, List.setIfInBounds_toArray, List.set_cons_zero, List.set_cons_succ]) | (refine wpO_light (v := ?_) (from_moves w5.heap.size) rfl rfl (fun _ _ _ h => h) ?_ ?_ ; rotate_left ; (· (intro w' hR ; (first | have hcells := from_cellsD ((from_moves w5.heap.size).trans _ _ _ hacc hR) | skip) ; go_simp ; try with_reducible rfl)) ; simp only [Act.put, List.setIfInBounds_toArray, List.set_cons_zero, List.set_cons_succ]))
  refine wpO_heavy (from_moves w5.heap.size) rfl rfl rfl ?_
  go_simp
  have hsg := set5_grown (w := wf) (g := g10) (.slice (some ⟨g4, 0, none⟩) 4 4) (.slice (some ⟨g5, 0, none⟩) 3 3) (.slice (some ⟨g6, 0, none⟩) 3 3) (.slice (some ⟨g7, 0, none⟩) 3 3) (.slice (some ⟨g8, 0, none⟩) 8 8)
  have kc := set5_blk k10 (.slice (some ⟨g4, 0, none⟩) 4 4) (.slice (some ⟨g5, 0, none⟩) 3 3) (.slice (some ⟨g6, 0, none⟩) 3 3) (.slice (some ⟨g7, 0, none⟩) 3 3) (.slice (some ⟨g8, 0, none⟩) 8 8)
  have hb5 := hbW.trans hbf
  have hb6 := hb5.trans (below_of_only hsg hb5.size y10)
  refine ⟨below_of_only hsg (by have := hbf.size; omega) y10, ?_⟩
  have hE : ∀ {a b : Nat}, a ≠ b → some a ≠ some b := fun h e => h (Option.some.inj e)
  replace k0 := k0.grown hsg (hE n0_10)
  replace k1 := k1.grown hsg (hE n1_10)
  replace k2 := k2.grown hsg (hE n2_10)
  replace k3 := k3.grown hsg (hE n3_10)
  replace k4 := k4.grown hsg (hE n4_10)
  replace k5 := k5.grown hsg (hE n5_10)
  replace k6 := k6.grown hsg (hE n6_10)
  replace k7 := k7.grown hsg (hE n7_10)
  replace k8 := k8.grown hsg (hE n8_10)
  replace hr := kept_RSl kept_RRow _ _ _ _ hb6 hr
  replace kt := kt.below hb6 kt.lt
  replace kl := kl.below hb6 kl.lt
  replace hb0 := below_chain hb0 hb6
  clear hsg c10 cc10 k10 hb5 hb6 hbW hbf hNc hacc HWc
  try simp only [Act.put, List.setIfInBounds_toArray, List.set_cons_zero, List.set_cons_succ]
  generalize ((((wf.setCell _ _).setCell _ _).setCell _ _).setCell _ _).setCell _ _ = w6 at kc k0 k1 k2 k3 k4 k5 k6 k7 k8 hr kt kl hb0 ⊢
  have hacc := (from_moves w5.heap.size).refl w6
  repeat (first | (refine wpO_skip (from_moves w5.heap.size) rfl rfl (fun _ _ _ h => h) ?_ ; simp only [Act.put, List.setIfInBounds_toArray, List.set_cons_zero, List.set_cons_succ]) | (refine wpO_light (v := ?_) (from_moves w5.heap.size) rfl rfl (fun _ _ _ h => h) ?_ ?_ ; rotate_left ; (· (intro w' hR ; (first | have hcells := from_cellsD ((from_moves w5.heap.size).trans _ _ _ hacc hR) | skip) ; go_simp ; try with_reducible rfl)) ; simp only [Act.put, List.setIfInBounds_toArray, List.set_cons_zero, List.set_cons_succ]))
  refine wpO_done ?_
  have r5 := zero_rwd k5 (l := [0, 0, 0]) rfl (by decide)
  have r6 := zero_rwd k6 (l := [0, 0, 0]) rfl (by decide)
  have r7 := zero_rwd k7 (l := [0, 0, 0]) rfl (by decide)
  have r8 := zero_rwd k8 (l := [0, 0, 0, 0, 0, 0, 0, 0]) rfl (by decide)
  have r4 : RRows w6 [.slice (some ⟨g4, 0, none⟩) 4 4] [[0], [0], [0], [0]] := by
    refine frows_done (N := 0) (gb := none) (f := fun _ => [0]) (fun k hk => ?_) k4 (by simp [maxLen])
    have h : ∀ {b : Nat}, Blk w6 b 22 (U64 [0]).toArray → RWx 0 none w6 (.slice (some ⟨b, 0, none⟩) 1 1) [0] := fun k => rwx_blkn k rfl (by decide) (by simp [maxLen]) (Nat.zero_le _) (fun e => by cases e)
    have : k = 0 ∨ k = 1 ∨ k = 2 ∨ k = 3 := by omega
    rcases this with rfl | rfl | rfl | rfl
    · exact ⟨_, rfl, h k0⟩
    · exact ⟨_, rfl, h k1⟩
    · exact ⟨_, rfl, h k2⟩
    · exact ⟨_, rfl, h k3⟩
  clear k0 k1 k2 k3 k4 k5 k6 k7 k8 hacc
  obtain ⟨hms, hb⟩ := msgs4z w6 22 28
  go_upto_region 7 with fail
  replace hr := kept_RSl kept_RRow _ _ _ _ hb hr
  replace kt := kt.below hb kt.lt
  replace kl := kl.below hb kl.lt
  replace kc := kc.below hb kc.lt
  replace hb0 := below_chain hb0 hb
  replace r4 := kept_RRows _ _ _ _ hb r4
  replace r5 := kept_RWd _ _ _ _ hb r5
  replace r6 := kept_RWd _ _ _ _ hb r6
  replace r7 := kept_RWd _ _ _ _ hb r7
  replace r8 := kept_RWd _ _ _ _ hb r8
  clear hb
  generalize ((((w6.alloc _).alloc _).alloc _).alloc _).alloc _ = w7 at kt kl kc hb0 r4 r5 r6 r7 r8 hr hms ⊢
  go_upto_region 8 with fail
  have kx := Blk.new w7 57 #[.int .u64 5, .int .u64 6, .int .u64 7]
  have hal := (Below.refl w7.heap.size w7).alloc (Nat.le_refl _) (.cells #[.int .u64 5, .int .u64 6, .int .u64 7] 57)
  replace hr := kept_RSl kept_RRow _ _ _ _ hal hr
  replace kt := kt.below hal kt.lt
  replace kl := kl.below hal kl.lt
  replace kc := kc.below hal kc.lt
  replace hb0 := below_chain hb0 hal
  replace r4 := kept_RRows _ _ _ _ hal r4
  replace r5 := kept_RWd _ _ _ _ hal r5
  replace r6 := kept_RWd _ _ _ _ hal r6
  replace r7 := kept_RWd _ _ _ _ hal r7
  replace r8 := kept_RWd _ _ _ _ hal r8
  replace hms := kept_RRows _ _ _ _ hal hms
  clear hal
  generalize w7.alloc _ = w8 at kt kl kc kx hb0 r4 r5 r6 r7 r8 hr hms ⊢
  generalize w7.heap.size = gx at kx ⊢
  have cl := kl.cell
  have ct := kt.cell
  have cc := kc.cell
  have cx := kx.cell
  go_wp2_with fail
  refine (HAn.out _ _ _ _ _ _ _ _ hr hms r4 r5 r6 r7 r8).mono ?_
  rintro e w9 ⟨v1, v2, v3, rfl, a1, a2, a3, hb⟩
  obtain ⟨A1, c1, rfl⟩ : ∃ A c, v1 = .slice A 3 c := by obtain ⟨A, c, h⟩ := rwd_form a1; exact ⟨A, c, h⟩
  obtain ⟨A2, c2, rfl⟩ : ∃ A c, v2 = .slice A 4 c := by obtain ⟨A, c, h⟩ := rwd_form a2; exact ⟨A, c, h⟩
  obtain ⟨A3, c3, rfl⟩ : ∃ A c, v3 = .slice A 5 c := by obtain ⟨A, c, h⟩ := rwd_form a3; exact ⟨A, c, h⟩
  replace hr := kept_RSl kept_RRow _ _ _ _ hb hr
  replace kt := kt.below hb kt.lt
  replace kl := kl.below hb kl.lt
  replace kc := kc.below hb kc.lt
  replace kx := kx.below hb kx.lt
  replace hb0 := below_chain hb0 hb
  replace r4 := kept_RRows _ _ _ _ hb r4
  replace r5 := kept_RWd _ _ _ _ hb r5
  replace r6 := kept_RWd _ _ _ _ hb r6
  replace r7 := kept_RWd _ _ _ _ hb r7
  replace r8 := kept_RWd _ _ _ _ hb r8
  clear hb cl ct cc cx hms HAn
  have mk7 : ∀ w : World, (Instr.makeSlice 28 (.int .i64 7) (.int .i64 7)).run Tryz.prog w = .ok (.slice (some ⟨w.heap.size, 0, none⟩) 7 7) (w.alloc (.cells (fillC 7 fun _ => 0) 22)) := fun w => mk_words 7 (by decide) w
  have mk4 : ∀ w : World, (Instr.makeSlice 28 (.int .i64 4) (.int .i64 4)).run Tryz.prog w = .ok (.slice (some ⟨w.heap.size, 0, none⟩) 4 4) (w.alloc (.cells (fillC 4 fun _ => 0) 22)) := fun w => mk_words 4 (by decide) w
  have mk5 : ∀ w : World, (Instr.makeSlice 28 (.int .i64 5) (.int .i64 5)).run Tryz.prog w = .ok (.slice (some ⟨w.heap.size, 0, none⟩) 5 5) (w.alloc (.cells (fillC 5 fun _ => 0) 22)) := fun w => mk_words 5 (by decide) w
  go_upto_region 10 with fail
  have kv := Blk.new w9 22 (fillC 7 fun _ => 0)
  have hw9 : w.heap.size ≤ w9.heap.size := hb0.size
  have h9 := (Below.refl w9.heap.size w9).alloc (Nat.le_refl _) (.cells (fillC 7 fun _ => 0) 22)
  replace hb0 := below_chain hb0 h9
  generalize w9.alloc _ = x1 at kv hb0 h9 ⊢
  obtain ⟨gv, hgv⟩ : ∃ gv, gv = w9.heap.size := ⟨_, rfl⟩
  rw [← hgv] at kv ⊢
  have hgv9 : w9.heap.size ≤ gv := by omega
  clear hgv
  have cl := (kl.below h9 kl.lt).cell
  have cc := (kc.below h9 kc.lt).cell
  go_wp2_with fail
  refine (HVa.out _ _ _ _ _ _ (kept_RSl kept_RWd _ _ _ _ h9 r4) (kept_RWd _ _ _ _ h9 r5) (kept_RWd _ _ _ _ h9 r6) (kept_RWd _ _ _ _ h9 r7) (kept_RWd _ _ _ _ h9 r8)).mono ?_
  rintro e x2 ⟨rfl, hb⟩
  replace kv := kv.below hb kv.lt
  replace hb0 := below_chain hb0 hb
  replace h9 := below_chain h9 hb
  clear hb cl cc r4 r5 r6 r7 r8 HVa
  have hal := (Below.refl x2.heap.size x2).alloc (Nat.le_refl _) (.cells (fillC 3 fun _ => 0) 22)
  have hz : RWd (x2.alloc (.cells (fillC 3 fun _ => 0) 22)) [.slice (some ⟨x2.heap.size, 0, none⟩) 3 3] [0, 0, 0] := zero_rwd (Blk.new _ _ _) rfl (by decide)
  have hz2 := kept_RWd _ _ _ _ (below_chain h9 hal) a1
  replace kv := kv.below hal kv.lt
  replace hb0 := below_chain hb0 hal
  replace h9 := below_chain h9 hal
  go_wp2_with fail
  refine (HS.out _ _ _ _ _ _ [0, 0, 0] [0, 0, 0] _ hz2 hz).mono ?_
  rintro e x2' ⟨rfl, hb⟩
  replace kv := kv.below hb kv.lt
  replace hb0 := below_chain hb0 hb
  replace h9 := below_chain h9 hb
  clear hb hal hz hz2
  rw [show decide (([0, 0, 0] : List Nat) = [0, 0, 0]) = true by decide]
  have hal := (Below.refl x2'.heap.size x2').alloc (Nat.le_refl _) (.cells (fillC 4 fun _ => 0) 22)
  have hz : RWd (x2'.alloc (.cells (fillC 4 fun _ => 0) 22)) [.slice (some ⟨x2'.heap.size, 0, none⟩) 4 4] [0, 0, 0, 0] := zero_rwd (Blk.new _ _ _) rfl (by decide)
  have hz2 := kept_RWd _ _ _ _ (below_chain h9 hal) a2
  replace kv := kv.below hal kv.lt
  replace hb0 := below_chain hb0 hal
  replace h9 := below_chain h9 hal
  go_wp2_with fail
  refine (HS.out _ _ _ _ _ _ [0, 0, 0, 0] [0, 0, 0, 0] _ hz2 hz).mono ?_
  rintro e x2'' ⟨rfl, hb⟩
  replace kv := kv.below hb kv.lt
  replace hb0 := below_chain hb0 hb
  replace h9 := below_chain h9 hb
  clear hb hal hz hz2
  rw [show decide (([0, 0, 0, 0] : List Nat) = [0, 0, 0, 0]) = true by decide]
  have hal := (Below.refl x2''.heap.size x2'').alloc (Nat.le_refl _) (.cells (fillC 5 fun _ => 0) 22)
  have hz : RWd (x2''.alloc (.cells (fillC 5 fun _ => 0) 22)) [.slice (some ⟨x2''.heap.size, 0, none⟩) 5 5] [0, 0, 0, 0, 0] := zero_rwd (Blk.new _ _ _) rfl (by decide)
  have hz2 := kept_RWd _ _ _ _ (below_chain h9 hal) a3
  replace kv := kv.below hal kv.lt
  replace hb0 := below_chain hb0 hal
  replace h9 := below_chain h9 hal
  go_wp2_with fail
  refine (HS.out _ _ _ _ _ _ [0, 0, 0, 0, 0] [0, 0, 0, 0, 0] _ hz2 hz).mono ?_
  rintro e x2''' ⟨rfl, hb⟩
  replace kv := kv.below hb kv.lt
  replace hb0 := below_chain hb0 hb
  replace h9 := below_chain h9 hb
  clear hb hal hz hz2
  rw [show decide (([0, 0, 0, 0, 0] : List Nat) = [0, 0, 0, 0, 0]) = true by decide]
  have cl := (kl.below h9 kl.lt).cell
  have ct := (kt.below h9 kt.lt).cell
  have cx := (kx.below h9 kx.lt).cell
  have hv := zero_rwd kv (l := [0, 0, 0, 0, 0, 0, 0]) rfl (by decide)
  go_wp2_with fail
  refine (HCo.out _ _ _ _ _ _ _ _ _ true _ (kept_RSl kept_RRow _ _ _ _ h9 hr) (kept_RWd _ _ _ _ h9 a1) (kept_RWd _ _ _ _ h9 a2) (kept_RWd _ _ _ _ h9 a3) hv aw_col).mono ?_
  rintro e x3 ⟨rfl, hb⟩
  replace kv := kv.below hb kv.lt
  replace hb0 := below_chain hb0 hb
  replace h9 := below_chain h9 hb
  clear hb cl ct cx hv
  have cv : x3.cell? ⟨gv, 5, none⟩ = some (.int .u64 0) := by rw [kv.cell, fill_get _ (by decide)]; rfl
  have fv := kv.frozen
  go_upto_region 13 with fail
  have hsg := set_only (w := x3) gv 5 (.int .u64 1)
  replace kv := kv.set_ 5 (.int .u64 1)
  replace h9 := h9.trans (below_of_only hsg h9.size hgv9)
  have hws : w.heap.size ≤ gv := Nat.le_trans hw9 hgv9
  replace hb0 := hb0.trans (below_of_only hsg hb0.size hws)
  clear hsg cv fv
  generalize x3.setCell _ _ = x4 at kv h9 hb0 ⊢
  have kv2 : Blk x4 gv 22 (fillC 7 (putF (fun _ => 0) 5 1)) := by rw [← fill_set]; exact kv
  have hv : RWd x4 [.slice (some ⟨gv, 0, none⟩) 7 7] [0, 0, 0, 0, 0, 1, 0] := fill_rwd kv2 (fun k _ => by unfold putF; split <;> first | decide | exact (by decide : (0 : Nat) < 18446744073709551616)) (by simp [maxLen])
  have cl := (kl.below h9 kl.lt).cell
  have ct := (kt.below h9 kt.lt).cell
  have cx := (kx.below h9 kx.lt).cell
  go_wp2_with fail
  refine (HCo.out _ _ _ _ _ _ _ _ _ false _ (kept_RSl kept_RRow _ _ _ _ h9 hr) (kept_RWd _ _ _ _ h9 a1) (kept_RWd _ _ _ _ h9 a2) (kept_RWd _ _ _ _ h9 a3) hv aw_not).mono ?_
  rintro e x5 ⟨rfl, hb⟩
  replace hb0 := below_chain hb0 hb
  go_wp2
  go_ret
  exact ⟨rfl, hb0⟩
end Go.Proofs.YtakjnmojigechaaGreat
