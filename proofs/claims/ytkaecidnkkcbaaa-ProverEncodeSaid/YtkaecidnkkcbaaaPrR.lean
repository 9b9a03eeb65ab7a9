/-
  ProverEncode: the walk of the law.
-/
import Derived.Test.YtkaecidnkkcbaaaPrQ
namespace Go.Proofs.Ytkaecidnkkcbaaa
open Go.RowKit

open Go.RowKit

theorem conv8_op {P : Program} {w : World} {src e dst : TypeId} {A : Option Addr} {n c : Nat} {l : List Nat} {o : Oper} {ρ : Operand → Value} {x : Operand} (hs : P.underlying src = some (.slice e)) (he : P.underlying e = some (.int .u8)) (hd : P.underlying dst = some .string)
    (ho : o.op = .convert src dst x) (hx : ρ x = .slice A n c) (h : Rd w 1 A n (U8 l)) : (execOp ρ o).run P w = .ok (.value (.string (S l))) w := by
  have hr := run_str_rd (c := c) hs he hd h
  unfold execOp
  simp only [ho, hx]
  simp [hr, Result.andThen]

set_option maxRecDepth 100000 in
set_option maxHeartbeats 4000000 in
theorem proverEncode_walk (W : World) (cs0 : Array Value) (f0 : Fits Try.prog W 32 (Value.agg cs0).cells.toList) (cs1 : Array Value) (f1 : Fits Try.prog W 35 (Value.agg cs1).cells.toList) :
    Calls Try.prog 5 #[.agg cs0, .agg cs1] W fun e W' => e = .returned (.bool true) ∧ Below W.heap.size W W' := by
  obtain ⟨p, pub, vars, A, B, n, c, m, d, rows, ws, bl, bw, qs, coin, seed, real, P, S, rfl, hin, rfl, hpin⟩ := open_cp f0 f1
  clear f0 f1
  have hb0 : Below W.heap.size W ((W.alloc (.cells #[.int .u64 (p : Int), .int .i64 pub, .int .i64 vars, .slice A n c, .int .i64 bl, .int .i64 bw, .int .i64 qs, .slice B m d, .int .u64 coin, .bool real, .int .u64 seed] 32)).alloc (.cells (prCs P S) 35)) := ((Below.refl _ W).alloc (Nat.le_refl _) _).alloc (by simp) _
  have HR := Lib.hid (fun w' (hb : Below W.heap.size W w') => rRight27_any p pub vars A B n c m d rows ws bl bw qs coin seed real w' (kept_RSl kept_RRow _ _ _ _ hb hin.rows) (kept_RWd _ _ _ _ hb hin.ws) hin.p)
  have HF := Lib.hid (fun w' (hb : Below W.heap.size W w') => few_any P S w' (prIn_below hpin hb))
  have HPI := Lib.hid hpin
  clear hin hpin
  unfold prCs at hb0 HF ⊢
  go_enter Try.func5, Try.ntmps5
  go_wp2_with fail
  refine (HR.out _ hb0).mono ?_
  rintro e w1 ⟨hpost, hb⟩
  obtain ⟨k1, k2, hbw⟩ := two_boxes hb
  obtain ⟨y0, y1, y2, y3, y4, y5, y6, y7, y8, y9, y10, b, s, rfl, hL⟩ := hpost
  clear hb hb0
  have l2 := k2.lt
  have c2 := k2.cell
  cases b
  · have hbl := hbw.alloc hbw.size (.cells #[.int .u64 y0, .int .i64 y1, .int .i64 y2, .int .i64 y3, .int .i64 y4, .int .i64 y5, .int .i64 y6, .int .i64 y7, .int .i64 y8, .int .i64 y9, .int .i64 y10] 38)
    clear hL
    go_wp2_with fail
    refine (awake_any _).mono ?_
    rintro e w2 ⟨rfl, hb2⟩
    replace hbl := below_chain hbl hb2
    go_wp2_with fail
    refine (awake_any _).mono ?_
    rintro e w3 ⟨rfl, hb3⟩
    go_wp2
    go_ret
    exact ⟨rfl, below_chain hbl hb3⟩
  · obtain ⟨L, hok, -, hn64, h40, hLL⟩ := hL rfl
    obtain ⟨rfl, rfl, rfl, rfl, rfl, rfl, rfl, rfl, rfl, rfl, rfl⟩ := layCs_inj hLL
    obtain ⟨j, hj⟩ := hok.n
    have hj10 := pow_bound hj hok.n2
    have hpos : 0 < L.p := by have := (okP_lt hok.p).1; omega
    have HP := Lib.hid (fun w => program_any L w)
    have HSZ := Lib.hid (fun w => size_any L j w hok hj hj10)
    have HV := Lib.hid (fun w' (hb : Below W.heap.size W w') => rValid27_any L j P S w' hok hj hj10 (prIn_below HPI.out hb))
    have HE0 := Lib.hid (fun w' (hb : Below W.heap.size W w') hv => pEncode_no L j P S w' hok hj hj10 (prIn_below HPI.out hb) hv)
    have HE1 := Lib.hid (fun w' (hb : Below W.heap.size W w') hv => pEncode_yes L j P S w' hok hj hj10 h40 (prIn_below HPI.out hb) hv)
    have HDE := Lib.hid (fun hv => dec_enc L j P hpos (nums_lt HPI.out) hv)
    have HNL := Lib.hid (fun hv => show (numsOf P).length ≤ 6000 by have := nums_len (lens_of (L := L) (j := j) (P := P) hv); have := szOf_le L j hok hj10 h40; omega)
    have HBY := Lib.hid (fun w' (hb : Below W.heap.size W w') hlen => rBytes27_any P S w' (prIn_below HPI.out hb) hlen)
    have HSM := Lib.hid (fun S' w' (hb : Below W.heap.size W w') hin hlen => same27_any P S S' w' (prIn_below HPI.out hb) hin hlen)
    have HD := Lib.hid (fun A n c b w hr h1 h2 h3 hb => pDecode_any L j A n c b w hok hj hj10 hr h1 h2 h3 hb)
    clear hL hLL hok hj hj10 hn64 h40 hpos HR
    generalize hres : prOk L j P = res at *
    clear hres
    unfold layCs at *
    unfold prCs at HV HE0 HE1 HBY
    have hbl := hbw.alloc hbw.size (.cells #[.int .u64 (L.p : Int), .int .i64 (L.block : Int), .int .i64 (L.queries : Int), .int .i64 (L.k : Int), .int .i64 (L.n : Int), .int .i64 (L.secret : Int), .int .i64 (L.rows : Int), .int .i64 (L.a : Int), .int .i64 (L.b : Int), .int .i64 (L.b : Int), .int .i64 (L.b : Int)] 38)
    have kl := Blk.new w1 38 #[.int .u64 (L.p : Int), .int .i64 (L.block : Int), .int .i64 (L.queries : Int), .int .i64 (L.k : Int), .int .i64 (L.n : Int), .int .i64 (L.secret : Int), .int .i64 (L.rows : Int), .int .i64 (L.a : Int), .int .i64 (L.b : Int), .int .i64 (L.b : Int), .int .i64 (L.b : Int)]
    have kp := k2.alloc (.cells #[.int .u64 (L.p : Int), .int .i64 (L.block : Int), .int .i64 (L.queries : Int), .int .i64 (L.k : Int), .int .i64 (L.n : Int), .int .i64 (L.secret : Int), .int .i64 (L.rows : Int), .int .i64 (L.a : Int), .int .i64 (L.b : Int), .int .i64 (L.b : Int), .int .i64 (L.b : Int)] 38)
    clear hbw k1 c2 k2 l2
    go_wp2_with fail
    generalize w1.alloc _ = w2 at hbl kl kp ⊢
    generalize w1.heap.size = g at kl ⊢
    refine (awake_any _).mono ?_
    rintro e w3 ⟨rfl, hb3⟩
    replace kl := kl.below hb3 kl.lt
    replace kp := kp.below hb3 kp.lt
    replace hbl := below_chain hbl hb3
    clear hb3
    have cp := kp.cell
    go_wp2_with fail
    refine (HF.out _ hbl).mono ?_
    rintro e w4 ⟨⟨fb, rfl⟩, hb4⟩
    replace kl := kl.below hb4 kl.lt
    replace kp := kp.below hb4 kp.lt
    replace hbl := below_chain hbl hb4
    clear hb4 cp
    cases fb
    · go_wp2_with fail
      refine (awake_any _).mono ?_
      rintro e w5 ⟨rfl, hb5⟩
      go_wp2
      go_ret
      exact ⟨rfl, below_chain hbl hb5⟩
    have cp := kp.cell
    have cl := kl.cell
    have lp := kp.lt
    have ll := kl.lt
    cases res
    · go_wp2_with fail
      refine wpO_begin (Later) [1, 3] [0, 2, 1, 3, 4, 5, 6, 7, 8] (by kernel_rfl) (by kernel_rfl) ?_
      refine wpO_start (later_moves) ?_
      intro Wc hacc
      repeat (first | (refine wpO_skip (later_moves) rfl rfl (fun _ _ _ h => h) ?_ ; simp only [Act.put, List.setIfInBounds_toArray, List.set_cons_zero, List.set_cons_succ]) | (refine wpO_light (v := ?_) (later_moves) rfl rfl (fun _ _ _ h => h) ?_ ?_ ; rotate_left ; (· (intro w' hR ; (first | have hcells := later_cellsD ((later_moves).trans _ _ _ hacc hR) | skip) ; go_simp ; try with_reducible rfl)) ; simp only [Act.put, List.setIfInBounds_toArray, List.set_cons_zero, List.set_cons_succ]))
      refine wpO_call (later_moves) rfl rfl rfl (fun _ => by go_simp <;> rfl) ((HP.out _).mono ?_)
      rintro e w5 ⟨rfl, hb5⟩
      refine ⟨_, rfl, hb5, ?_⟩
      replace hacc := (later_moves).trans _ _ _ hacc (hb5)
      simp only [Act.put, List.setIfInBounds_toArray, List.set_cons_zero, List.set_cons_succ]
      repeat (first | (refine wpO_skip (later_moves) rfl rfl (fun _ _ _ h => h) ?_ ; simp only [Act.put, List.setIfInBounds_toArray, List.set_cons_zero, List.set_cons_succ]) | (refine wpO_light (v := ?_) (later_moves) rfl rfl (fun _ _ _ h => h) ?_ ?_ ; rotate_left ; (· (intro w' hR ; (first | have hcells := later_cellsD ((later_moves).trans _ _ _ hacc hR) | skip) ; go_simp ; try with_reducible rfl)) ; simp only [Act.put, List.setIfInBounds_toArray, List.set_cons_zero, List.set_cons_succ]))
      refine wpO_call (later_moves) rfl rfl rfl (fun _ => by go_simp <;> rfl) ((HE0.out _ (below_chain hbl.drew hacc) (by first | rfl | trivial)).mono ?_)
      rintro e w6 ⟨rfl, hb6⟩
      refine ⟨_, rfl, hb6, ?_⟩
      replace hacc := (later_moves).trans _ _ _ hacc (hb6)
      simp only [Act.put, List.setIfInBounds_toArray, List.set_cons_zero, List.set_cons_succ]
      repeat (first | (refine wpO_skip (later_moves) rfl rfl (fun _ _ _ h => h) ?_ ; simp only [Act.put, List.setIfInBounds_toArray, List.set_cons_zero, List.set_cons_succ]) | (refine wpO_light (v := ?_) (later_moves) rfl rfl (fun _ _ _ h => h) ?_ ?_ ; rotate_left ; (· (intro w' hR ; (first | have hcells := later_cellsD ((later_moves).trans _ _ _ hacc hR) | skip) ; go_simp ; try with_reducible rfl)) ; simp only [Act.put, List.setIfInBounds_toArray, List.set_cons_zero, List.set_cons_succ]))
      refine wpO_done ?_
      have kl' := kl.drew.below hacc kl.lt
      have kp' := kp.drew.below hacc kp.lt
      have hbz := below_chain hbl.drew hacc
      clear cp cl
      have cp := kp'.cell
      have cl := kl'.cell
      go_wp2_with fail
      refine (HV.out _ hbz).mono ?_
      rintro e w7 ⟨rfl, hb7⟩
      go_wp2
      go_ret
      exact ⟨rfl, below_chain hbz hb7⟩
    · obtain ⟨hde, hlb⟩ := HDE.out rfl
      have hnl := HNL.out rfl
      have HLB := Lib.hid hlb
      have HN := Lib.hid hnl
      have HDD := Lib.hid hde
      clear hde hlb hnl HNL HDE HE0
      go_wp2_with fail
      refine wpO_begin (Later) [1, 3] [0, 2, 1, 3, 4, 5, 6, 7, 8] (by kernel_rfl) (by kernel_rfl) ?_
      refine wpO_start (later_moves) ?_
      intro Wc hacc
      repeat (first | (refine wpO_skip (later_moves) rfl rfl (fun _ _ _ h => h) ?_ ; simp only [Act.put, List.setIfInBounds_toArray, List.set_cons_zero, List.set_cons_succ]) | (refine wpO_light (v := ?_) (later_moves) rfl rfl (fun _ _ _ h => h) ?_ ?_ ; rotate_left ; (· (intro w' hR ; (first | have hcells := later_cellsD ((later_moves).trans _ _ _ hacc hR) | skip) ; go_simp ; try with_reducible rfl)) ; simp only [Act.put, List.setIfInBounds_toArray, List.set_cons_zero, List.set_cons_succ]))
      refine wpO_call (later_moves) rfl rfl rfl (fun _ => by go_simp <;> rfl) ((HP.out _).mono ?_)
      rintro e w5 ⟨rfl, hb5⟩
      refine ⟨_, rfl, hb5, ?_⟩
      replace hacc := (later_moves).trans _ _ _ hacc (hb5)
      simp only [Act.put, List.setIfInBounds_toArray, List.set_cons_zero, List.set_cons_succ]
      repeat (first | (refine wpO_skip (later_moves) rfl rfl (fun _ _ _ h => h) ?_ ; simp only [Act.put, List.setIfInBounds_toArray, List.set_cons_zero, List.set_cons_succ]) | (refine wpO_light (v := ?_) (later_moves) rfl rfl (fun _ _ _ h => h) ?_ ?_ ; rotate_left ; (· (intro w' hR ; (first | have hcells := later_cellsD ((later_moves).trans _ _ _ hacc hR) | skip) ; go_simp ; try with_reducible rfl)) ; simp only [Act.put, List.setIfInBounds_toArray, List.set_cons_zero, List.set_cons_succ]))
      refine wpO_call (later_moves) rfl rfl rfl (fun _ => by go_simp <;> rfl) ((HE1.out _ (below_chain hbl.drew hacc) (by first | rfl | trivial)).mono ?_)
      rintro e w6 ⟨A5, c5, rfl, hr5, h51, h52, hb6⟩
      refine ⟨_, rfl, hb6, ?_⟩
      replace hacc := (later_moves).trans _ _ _ hacc (hb6)
      simp only [Act.put, List.setIfInBounds_toArray, List.set_cons_zero, List.set_cons_succ]
      repeat (first | (refine wpO_skip (later_moves) rfl rfl (fun _ _ _ h => h) ?_ ; simp only [Act.put, List.setIfInBounds_toArray, List.set_cons_zero, List.set_cons_succ]) | (refine wpO_light (v := ?_) (later_moves) rfl rfl (fun _ _ _ h => h) ?_ ?_ ; rotate_left ; (· (intro w' hR ; (first | have hcells := later_cellsD ((later_moves).trans _ _ _ hacc hR) | skip) ; go_simp ; try with_reducible rfl)) ; simp only [Act.put, List.setIfInBounds_toArray, List.set_cons_zero, List.set_cons_succ]))
      refine wpO_done ?_
      replace kl := kl.drew.below hacc kl.lt
      replace kp := kp.drew.below hacc kp.lt
      replace hbl := below_chain hbl.drew hacc
      clear cp cl hacc hb6
      have cp := kp.cell
      have cl := kl.cell
      have H5 := Lib.hid (And.intro h51 h52)
      clear h51 h52
      go_wp2_with fail
      refine (HV.out _ hbl).mono ?_
      rintro e w7 ⟨rfl, hb7⟩
      replace kl := kl.below hb7 kl.lt
      replace kp := kp.below hb7 kp.lt
      replace hr5 := hr5.below hb7
      replace hbl := below_chain hbl hb7
      clear cp cl hb7 HV
      have cl := kl.cell
      go_wp2_with fail
      refine (HP.out _).mono ?_
      rintro e w8 ⟨rfl, hb8⟩
      replace kl := kl.below hb8 kl.lt
      replace kp := kp.below hb8 kp.lt
      replace hr5 := hr5.below hb8
      replace hbl := below_chain hbl hb8
      clear hb8 cl
      have hN := HN.out
      go_wp2_with (at_builtin; refine wpl_append rfl _ _ rfl el_u8 rfl (own_empty w8 5 (Nat.le_refl _)) rfl (hr5.alloc _) (one_U8 (bytesOf (numsOf P))) (by omega) (by simp) ?_)
      intro v' wn hown' hgrow hblk
      have hal := (Below.refl w8.heap.size w8).alloc (Nat.le_refl _) (.cells #[] 5)
      have hB : Below w8.heap.size (w8.alloc (.cells #[] 5)) wn := own_grow (own_empty w8 5 (Nat.le_refl _)) hgrow (by simp)
      have hB2 := hal.trans hB
      obtain ⟨Av, cv, rfl, hv1, hv2, hv3, -⟩ := own_form hown'
      try simp only [List.nil_append] at hv3
      try simp only [Nat.zero_add] at hv1 hv3
      replace kl := kl.below hB2 kl.lt
      replace kp := kp.below hB2 kp.lt
      replace hr5 := hr5.below hB2
      replace hbl := below_chain hbl hB2
      have HD1 := Lib.hid (HD.out Av (8 * (numsOf P).length) cv (bytesOf (numsOf P)) wn hv3 hv1 hv2 (by omega) (bytesOf_lt _))
      rw [HDD.out] at HD1
      clear hown' hgrow hblk hal hB hB2 hv3 hv1 hv2 HD
      go_wp2_with fail
      refine HD1.out.mono ?_
      rintro e w9 ⟨S', rfl, hin', hb9⟩
      simp only at hin'
      unfold prCs
      replace kl := kl.below hb9 kl.lt
      replace kp := kp.below hb9 kp.lt
      replace hr5 := hr5.below hb9
      replace hbl := below_chain hbl hb9
      clear hb9 HD1
      have hal := (Below.refl w9.heap.size w9).alloc (Nat.le_refl _) (.cells #[.int .u64 (P.root : Int), .slice S'.A1 S'.n1 S'.c1, .slice S'.A2 S'.n2 S'.c2, .slice S'.A3 S'.n3 S'.c3, .slice S'.A4 S'.n4 S'.c4, .slice S'.A5 S'.n5 S'.c5, .slice S'.A6 S'.n6 S'.c6] 35)
      have kq := Blk.new w9 35 #[.int .u64 (P.root : Int), .slice S'.A1 S'.n1 S'.c1, .slice S'.A2 S'.n2 S'.c2, .slice S'.A3 S'.n3 S'.c3, .slice S'.A4 S'.n4 S'.c4, .slice S'.A5 S'.n5 S'.c5, .slice S'.A6 S'.n6 S'.c6]
      replace kl := kl.below hal kl.lt
      replace kp := kp.below hal kp.lt
      replace hr5 := hr5.below hal
      replace hbl := below_chain hbl hal
      replace hin' := prIn_below hin' hal
      go_upto_region 8 with fail
      generalize w9.alloc _ = w10 at hal kq kl kp hr5 hbl hin' ⊢
      generalize w9.heap.size = gq at kq ⊢
      clear hal
      have cl := kl.cell
      have cp := kp.cell
      have cq := kq.cell
      have ll := kl.lt
      have lp := kp.lt
      have lq := kq.lt
      have HIN' := Lib.hid hin'
      have HRD := Lib.hid hr5
      have HBL := Lib.hid hbl
      clear kl kp kq hin' hr5 hbl
      have e8 : ((8 * (numsOf P).length : Nat) : Int) = (szOf L j : Nat) := by have := HLB.out; rw [bytesOf_len] at this; rw [this]
      generalize 8 * (numsOf P).length = nb at *
      generalize hNS : numsOf P = ns at *
      unfold prCs at HSM
      go_wp2_with fail
      refine wpO_begin (Later) [3, 14, 15, 25] [0, 1, 2, 3, 4, 5, 6, 7, 8, 9, 10, 11, 12, 13, 14, 15, 16, 17, 18, 19, 20, 21, 22, 23, 24, 25, 26, 27] (by kernel_rfl) (by kernel_rfl) ?_
      refine wpO_start (later_moves) ?_
      intro Wc hacc
      repeat (first | (refine wpO_skip (later_moves) rfl rfl (fun _ _ _ h => h) ?_ ; simp only [Act.put, List.setIfInBounds_toArray, List.set_cons_zero, List.set_cons_succ]) | (refine wpO_light (v := ?_) (later_moves) rfl rfl (fun _ _ _ h => h) ?_ ?_ ; rotate_left ; (· (intro w' hR ; (first | have hcells := later_cellsD ((later_moves).trans _ _ _ hacc hR) | skip) ; go_simp ; try with_reducible rfl)) ; simp only [Act.put, List.setIfInBounds_toArray, List.set_cons_zero, List.set_cons_succ]))
      refine wpO_light later_moves rfl rfl (fun _ _ _ h => h) (fun w' hR => conv8_op (e := 5) Try.underlying48 Try.underlying5 Try.underlying9 rfl rfl (HRD.out.below (later_moves.trans _ _ _ (below_chain (Below.refl _ w10).drew hacc) hR))) ?_
      simp only [Act.put, List.setIfInBounds_toArray, List.set_cons_zero, List.set_cons_succ]
      repeat (first | (refine wpO_skip (later_moves) rfl rfl (fun _ _ _ h => h) ?_ ; simp only [Act.put, List.setIfInBounds_toArray, List.set_cons_zero, List.set_cons_succ]) | (refine wpO_light (v := ?_) (later_moves) rfl rfl (fun _ _ _ h => h) ?_ ?_ ; rotate_left ; (· (intro w' hR ; (first | have hcells := later_cellsD ((later_moves).trans _ _ _ hacc hR) | skip) ; go_simp ; try with_reducible rfl)) ; simp only [Act.put, List.setIfInBounds_toArray, List.set_cons_zero, List.set_cons_succ]))
      refine wpO_call (later_moves) rfl rfl rfl (fun _ => by go_simp <;> rfl) ((HBY.out _ (below_chain HBL.out.drew hacc) (by have := HN.out; omega)).mono ?_)
      rintro e w11 ⟨v11, rfl, hv11, hb11⟩
      refine ⟨_, rfl, hb11, ?_⟩
      replace hacc := (later_moves).trans _ _ _ hacc (hb11)
      simp only [Act.put, List.setIfInBounds_toArray, List.set_cons_zero, List.set_cons_succ]
      obtain ⟨A11, c11, rfl, -, -, hr11, -⟩ := own_form hv11
      clear hv11
      refine wpO_light later_moves rfl rfl (fun _ _ _ h => h) (fun w' hR => conv8_op (e := 5) Try.underlying48 Try.underlying5 Try.underlying9 rfl rfl (hr11.below hR)) ?_
      simp only [Act.put, List.setIfInBounds_toArray, List.set_cons_zero, List.set_cons_succ]
      repeat (first | (refine wpO_skip (later_moves) rfl rfl (fun _ _ _ h => h) ?_ ; simp only [Act.put, List.setIfInBounds_toArray, List.set_cons_zero, List.set_cons_succ]) | (refine wpO_light (v := ?_) (later_moves) rfl rfl (fun _ _ _ h => h) ?_ ?_ ; rotate_left ; (· (intro w' hR ; (first | have hcells := later_cellsD ((later_moves).trans _ _ _ hacc hR) | skip) ; go_simp ; try with_reducible rfl)) ; simp only [Act.put, List.setIfInBounds_toArray, List.set_cons_zero, List.set_cons_succ]))
      refine wpO_call (later_moves) rfl rfl rfl (fun _ => by go_simp <;> rfl) ((HP.out _).mono ?_)
      rintro e w12 ⟨rfl, hb12⟩
      refine ⟨_, rfl, hb12, ?_⟩
      replace hacc := (later_moves).trans _ _ _ hacc (hb12)
      simp only [Act.put, List.setIfInBounds_toArray, List.set_cons_zero, List.set_cons_succ]
      repeat (first | (refine wpO_skip (later_moves) rfl rfl (fun _ _ _ h => h) ?_ ; simp only [Act.put, List.setIfInBounds_toArray, List.set_cons_zero, List.set_cons_succ]) | (refine wpO_light (v := ?_) (later_moves) rfl rfl (fun _ _ _ h => h) ?_ ?_ ; rotate_left ; (· (intro w' hR ; (first | have hcells := later_cellsD ((later_moves).trans _ _ _ hacc hR) | skip) ; go_simp ; try with_reducible rfl)) ; simp only [Act.put, List.setIfInBounds_toArray, List.set_cons_zero, List.set_cons_succ]))
      refine wpO_call (later_moves) rfl rfl rfl (fun _ => by go_simp <;> rfl) ((HSZ.out _).mono ?_)
      rintro e w13 ⟨rfl, hb13⟩
      refine ⟨_, rfl, hb13, ?_⟩
      replace hacc := (later_moves).trans _ _ _ hacc (hb13)
      simp only [Act.put, List.setIfInBounds_toArray, List.set_cons_zero, List.set_cons_succ]
      repeat (first | (refine wpO_skip (later_moves) rfl rfl (fun _ _ _ h => h) ?_ ; simp only [Act.put, List.setIfInBounds_toArray, List.set_cons_zero, List.set_cons_succ]) | (refine wpO_light (v := ?_) (later_moves) rfl rfl (fun _ _ _ h => h) ?_ ?_ ; rotate_left ; (· (intro w' hR ; (first | have hcells := later_cellsD ((later_moves).trans _ _ _ hacc hR) | skip) ; go_simp ; try with_reducible rfl)) ; simp only [Act.put, List.setIfInBounds_toArray, List.set_cons_zero, List.set_cons_succ]))
      refine wpO_call (later_moves) rfl rfl rfl (fun _ => by go_simp <;> rfl) ((HSM.out S' _ (below_chain HBL.out.drew hacc) (prIn_below HIN'.out (below_chain (Below.refl _ w10).drew hacc)) (by have := HN.out; omega)).mono ?_)
      rintro e w14 ⟨rfl, hb14⟩
      refine ⟨_, rfl, hb14, ?_⟩
      replace hacc := (later_moves).trans _ _ _ hacc (hb14)
      simp only [Act.put, List.setIfInBounds_toArray, List.set_cons_zero, List.set_cons_succ]
      repeat (first | (refine wpO_skip (later_moves) rfl rfl (fun _ _ _ h => h) ?_ ; simp only [Act.put, List.setIfInBounds_toArray, List.set_cons_zero, List.set_cons_succ]) | (refine wpO_light (v := ?_) (later_moves) rfl rfl (fun _ _ _ h => h) ?_ ?_ ; rotate_left ; (· (intro w' hR ; (first | have hcells := later_cellsD ((later_moves).trans _ _ _ hacc hR) | skip) ; go_simp ; try with_reducible rfl)) ; simp only [Act.put, List.setIfInBounds_toArray, List.set_cons_zero, List.set_cons_succ]))
      refine wpO_done ?_
      go_wp2
      go_ret
      exact ⟨rfl, below_chain HBL.out.drew hacc⟩
end Go.Proofs.Ytkaecidnkkcbaaa

