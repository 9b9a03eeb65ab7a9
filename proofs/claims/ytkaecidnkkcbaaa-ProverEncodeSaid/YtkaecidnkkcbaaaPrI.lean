/-
  ProverValid: the walk of the law.
-/
import Derived.Test.YtkaecidnkkcbaaaPrH
namespace Go.Proofs.Ytkaecidnkkcbaaa
open Go.RowKit

set_option maxRecDepth 100000 in
set_option maxHeartbeats 2000000 in
theorem proverValid_walk (W : World) (cs0 : Array Value) (f0 : Fits Try.prog W 32 (Value.agg cs0).cells.toList) (cs1 : Array Value) (f1 : Fits Try.prog W 35 (Value.agg cs1).cells.toList) :
    Calls Try.prog 3 #[.agg cs0, .agg cs1] W fun e W' => e = .returned (.bool true) ∧ Below W.heap.size W W' := by
  obtain ⟨p, pub, vars, A, B, n, c, m, d, rows, ws, bl, bw, qs, coin, seed, real, P, S, rfl, hin, rfl, hpin⟩ := open_cp f0 f1
  clear f0 f1
  have hb0 : Below W.heap.size W ((W.alloc (.cells #[.int .u64 (p : Int), .int .i64 pub, .int .i64 vars, .slice A n c, .int .i64 bl, .int .i64 bw, .int .i64 qs, .slice B m d, .int .u64 coin, .bool real, .int .u64 seed] 32)).alloc (.cells (prCs P S) 35)) := ((Below.refl _ W).alloc (Nat.le_refl _) _).alloc (by simp) _
  have HR := Lib.hid (fun w' (hb : Below W.heap.size W w') => rRight27_any p pub vars A B n c m d rows ws bl bw qs coin seed real w' (kept_RSl kept_RRow _ _ _ _ hb hin.rows) (kept_RWd _ _ _ _ hb hin.ws) hin.p)
  have HF := Lib.hid (fun w' (hb : Below W.heap.size W w') => few_any P S w' (prIn_below hpin hb))
  have HV1 := Lib.hid (fun L j w' (hL : LayOk L) (hn : L.n = 2 ^ j) (hj : j ≤ 10) (hb : Below W.heap.size W w') => pValid_any L j P S w' hL hn hj (prIn_below hpin hb))
  have HV2 := Lib.hid (fun L j w' (hL : LayOk L) (hn : L.n = 2 ^ j) (hj : j ≤ 10) (hb : Below W.heap.size W w') => rValid27_any L j P S w' hL hn hj (prIn_below hpin hb))
  clear hin hpin
  unfold prCs at *
  go_enter Try.func3, Try.ntmps3
  go_wp2_with fail
  refine (HR.out _ hb0).mono ?_
  rintro e w1 ⟨hpost, hb⟩
  obtain ⟨k1, k2, hbw⟩ := two_boxes hb
  obtain ⟨y0, y1, y2, y3, y4, y5, y6, y7, y8, y9, y10, b, s, rfl, hL⟩ := hpost
  clear hb hb0
  have l2 := k2.lt
  have c2 := k2.cell
  cases b
  · have hbl := hbw.alloc hbw.size (.cells #[.int .u64 y0, .int .i64 y1, .int .i64 y2, .int .i64 y3, .int .i64 y4, .int .i64 y5, .int .i64 y6, .int .i64 y7, .int .i64 y8, .int .i64 y9, .int .i64 y10] 38)
    clear hL
    go_wp2_with fail
    refine (awake_any _).mono ?_
    rintro e w2 ⟨rfl, hb2⟩
    replace hbl := below_chain hbl hb2
    go_wp2_with fail
    refine (awake_any _).mono ?_
    rintro e w3 ⟨rfl, hb3⟩
    go_wp2
    go_ret
    exact ⟨rfl, below_chain hbl hb3⟩
  · obtain ⟨L, hok, -, hn64, -, hLL⟩ := hL rfl
    obtain ⟨rfl, rfl, rfl, rfl, rfl, rfl, rfl, rfl, rfl, rfl, rfl⟩ := layCs_inj hLL
    obtain ⟨j, hj⟩ := hok.n
    have hj10 := pow_bound hj hok.n2
    have HP := Lib.hid (fun w => program_any L w)
    have H1 := Lib.hid (fun w' (hb : Below W.heap.size W w') => HV1.out L j w' hok hj hj10 hb)
    have H2 := Lib.hid (fun w' (hb : Below W.heap.size W w') => HV2.out L j w' hok hj hj10 hb)
    clear hL hLL hok hj hj10 hn64 HV1 HV2 HR
    revert H1 H2
    generalize prOk L j P = res
    intro H1 H2
    unfold layCs at *
    have hbl := hbw.alloc hbw.size (.cells #[.int .u64 (L.p : Int), .int .i64 (L.block : Int), .int .i64 (L.queries : Int), .int .i64 (L.k : Int), .int .i64 (L.n : Int), .int .i64 (L.secret : Int), .int .i64 (L.rows : Int), .int .i64 (L.a : Int), .int .i64 (L.b : Int), .int .i64 (L.b : Int), .int .i64 (L.b : Int)] 38)
    have kl := Blk.new w1 38 #[.int .u64 (L.p : Int), .int .i64 (L.block : Int), .int .i64 (L.queries : Int), .int .i64 (L.k : Int), .int .i64 (L.n : Int), .int .i64 (L.secret : Int), .int .i64 (L.rows : Int), .int .i64 (L.a : Int), .int .i64 (L.b : Int), .int .i64 (L.b : Int), .int .i64 (L.b : Int)]
    have kp := k2.alloc (.cells #[.int .u64 (L.p : Int), .int .i64 (L.block : Int), .int .i64 (L.queries : Int), .int .i64 (L.k : Int), .int .i64 (L.n : Int), .int .i64 (L.secret : Int), .int .i64 (L.rows : Int), .int .i64 (L.a : Int), .int .i64 (L.b : Int), .int .i64 (L.b : Int), .int .i64 (L.b : Int)] 38)
    clear hbw k1 c2
    go_wp2_with fail
    revert hbl kl kp
    generalize w1.alloc _ = w2
    generalize w1.heap.size = g at *
    intro hbl kl kp
    refine (awake_any _).mono ?_
    rintro e w3 ⟨rfl, hb3⟩
    replace kl := kl.below hb3 kl.lt
    replace kp := kp.below hb3 kp.lt
    replace hbl := below_chain hbl hb3
    clear hb3
    have cp := kp.cell
    go_wp2_with fail
    refine (HF.out _ hbl).mono ?_
    rintro e w4 ⟨⟨fb, rfl⟩, hb4⟩
    replace kl := kl.below hb4 kl.lt
    replace kp := kp.below hb4 kp.lt
    replace hbl := below_chain hbl hb4
    clear hb4 cp
    have cp := kp.cell
    have cl := kl.cell
    have lp := kp.lt
    have ll := kl.lt
    cases fb
    · go_wp2_with fail
      refine (awake_any _).mono ?_
      rintro e w5 ⟨rfl, hb5⟩
      go_wp2
      go_ret
      exact ⟨rfl, below_chain hbl hb5⟩
    · go_wp2_with fail
      refine wpO_begin (Later) [1, 3, 6] [0, 2, 4, 5, 1, 3, 6, 7, 8] (by kernel_rfl) (by kernel_rfl) ?_
      refine wpO_start (later_moves) ?_
      intro Wc hacc
      repeat (first | (refine wpO_skip (later_moves) rfl rfl (fun _ _ _ h => h) ?_ ; simp only [Act.put, List.setIfInBounds_toArray, List.set_cons_zero, List.set_cons_succ]) | (refine wpO_light (v := ?_) (later_moves) rfl rfl (fun _ _ _ h => h) ?_ ?_ ; rotate_left ; (· (intro w' hR ; (first | have hcells := later_cellsD ((later_moves).trans _ _ _ hacc hR) | skip) ; go_simp ; try with_reducible rfl)) ; simp only [Act.put, List.setIfInBounds_toArray, List.set_cons_zero, List.set_cons_succ]))
      refine wpO_call (later_moves) rfl rfl rfl (fun _ => by go_simp <;> rfl) ((HP.out _).mono ?_)
      rintro e w5 ⟨rfl, hb5⟩
      refine ⟨_, rfl, hb5, ?_⟩
      replace hacc := (later_moves).trans _ _ _ hacc (hb5)
      simp only [Act.put, List.setIfInBounds_toArray, List.set_cons_zero, List.set_cons_succ]
      repeat (first | (refine wpO_skip (later_moves) rfl rfl (fun _ _ _ h => h) ?_ ; simp only [Act.put, List.setIfInBounds_toArray, List.set_cons_zero, List.set_cons_succ]) | (refine wpO_light (v := ?_) (later_moves) rfl rfl (fun _ _ _ h => h) ?_ ?_ ; rotate_left ; (· (intro w' hR ; (first | have hcells := later_cellsD ((later_moves).trans _ _ _ hacc hR) | skip) ; go_simp ; try with_reducible rfl)) ; simp only [Act.put, List.setIfInBounds_toArray, List.set_cons_zero, List.set_cons_succ]))
      refine wpO_call (later_moves) rfl rfl rfl (fun _ => by go_simp <;> rfl) ((H1.out _ (below_chain hbl.drew hacc)).mono ?_)
      rintro e w6 ⟨rfl, hb6⟩
      refine ⟨_, rfl, hb6, ?_⟩
      replace hacc := (later_moves).trans _ _ _ hacc (hb6)
      simp only [Act.put, List.setIfInBounds_toArray, List.set_cons_zero, List.set_cons_succ]
      repeat (first | (refine wpO_skip (later_moves) rfl rfl (fun _ _ _ h => h) ?_ ; simp only [Act.put, List.setIfInBounds_toArray, List.set_cons_zero, List.set_cons_succ]) | (refine wpO_light (v := ?_) (later_moves) rfl rfl (fun _ _ _ h => h) ?_ ?_ ; rotate_left ; (· (intro w' hR ; (first | have hcells := later_cellsD ((later_moves).trans _ _ _ hacc hR) | skip) ; go_simp ; try with_reducible rfl)) ; simp only [Act.put, List.setIfInBounds_toArray, List.set_cons_zero, List.set_cons_succ]))
      refine wpO_call (later_moves) rfl rfl rfl (fun _ => by go_simp <;> rfl) ((H2.out _ (below_chain hbl.drew hacc)).mono ?_)
      rintro e w7 ⟨rfl, hb7⟩
      refine ⟨_, rfl, hb7, ?_⟩
      replace hacc := (later_moves).trans _ _ _ hacc (hb7)
      simp only [Act.put, List.setIfInBounds_toArray, List.set_cons_zero, List.set_cons_succ]
      cases res
      · repeat (first | (refine wpO_skip (later_moves) rfl rfl (fun _ _ _ h => h) ?_ ; simp only [Act.put, List.setIfInBounds_toArray, List.set_cons_zero, List.set_cons_succ]) | (refine wpO_light (v := ?_) (later_moves) rfl rfl (fun _ _ _ h => h) ?_ ?_ ; rotate_left ; (· (intro w' hR ; (first | have hcells := later_cellsD ((later_moves).trans _ _ _ hacc hR) | skip) ; go_simp ; try with_reducible rfl)) ; simp only [Act.put, List.setIfInBounds_toArray, List.set_cons_zero, List.set_cons_succ]))
        refine wpO_done ?_
        go_wp2
        go_ret
        exact ⟨rfl, below_chain hbl.drew hacc⟩
      · repeat (first | (refine wpO_skip (later_moves) rfl rfl (fun _ _ _ h => h) ?_ ; simp only [Act.put, List.setIfInBounds_toArray, List.set_cons_zero, List.set_cons_succ]) | (refine wpO_light (v := ?_) (later_moves) rfl rfl (fun _ _ _ h => h) ?_ ?_ ; rotate_left ; (· (intro w' hR ; (first | have hcells := later_cellsD ((later_moves).trans _ _ _ hacc hR) | skip) ; go_simp ; try with_reducible rfl)) ; simp only [Act.put, List.setIfInBounds_toArray, List.set_cons_zero, List.set_cons_succ]))
        refine wpO_done ?_
        go_wp2
        go_ret
        exact ⟨rfl, below_chain hbl.drew hacc⟩
end Go.Proofs.Ytkaecidnkkcbaaa

