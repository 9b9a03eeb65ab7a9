/-
  ProverDecode: the walk of the law.
-/
import Derived.Test.YtkaecidnkkcbaaaPrO
import Derived.Test.YtkaecidnkkcbaaaPrH
namespace Go.Proofs.Ytkaecidnkkcbaaa
open Go.RowKit

/-- A case, opened. -/
theorem open_case {w : World} {cs0 : Array Value} (f0 : Fits Try.prog w 32 (Value.agg cs0).cells.toList) :
    ∃ (p : Nat) (pub vars : Int) (A B : Option Addr) (n c m d : Nat) (rows : List RowR) (ws : List Nat) (bl bw qs coin seed : Int) (real : Bool),
      cs0 = #[.int .u64 (p : Int), .int .i64 pub, .int .i64 vars, .slice A n c, .int .i64 bl, .int .i64 bw, .int .i64 qs, .slice B m d, .int .u64 coin, .bool real, .int .u64 seed] ∧ CaseIn w p pub vars A B n c m d rows ws := by
  have e0 : (Value.agg cs0).cells = cs0 := rfl
  rw [e0] at f0
  have l0 := (fits_struct Try.underlying32 f0).1
  rw [cellsOf_case27] at l0
  obtain ⟨p, pub, vars, A, B, n, c, m, d, rows, ws, bl, bw, qs, coin, seed, real, hc, hin⟩ := fits_case27 l0 f0
  exact ⟨p, pub, vars, A, B, n, c, m, d, rows, ws, bl, bw, qs, coin, seed, real, Array.toList_inj.1 hc, hin⟩
theorem cellsOf_u8 : Try.prog.cellsOf 5 = 1 := by kernel_rfl
theorem take_len_le (l : List Nat) (k : Nat) : (l.take k).length ≤ k := by rw [List.length_take]; omega
theorem flatten_le (ls : List (List Nat)) (s : Nat) (h : ∀ l ∈ ls, l.length ≤ s) : ls.flatten.length ≤ ls.length * s := by
  induction ls with
  | nil => simp
  | cons l r ih =>
    have h1 := h l (by simp)
    have h2 := ih fun x hx => h x (by simp [hx])
    rw [List.flatten_cons, List.length_append, List.length_cons, Nat.succ_mul]
    omega
theorem chunks_flat (n s : Nat) (l : List Nat) : (chunks n s l).flatten.length ≤ n * s := by
  have := flatten_le (chunks n s l) s fun x hx => by
    obtain ⟨i, -, rfl⟩ := List.mem_map.1 hx
    exact take_len_le _ _
  rwa [chunks_len] at this
theorem nums_of_len (L : LayR) (j : Nat) (x : List Nat) : 8 * (numsOf (ofNums L j x)).length ≤ szOf L j := by
  have h1 := take_len_le (x.drop 1) L.k
  have h2 := take_len_le (x.drop (1 + L.k)) (L.k + L.block - 1)
  have h3 := take_len_le ((x.drop (1 + L.k)).drop (L.k + L.block - 1)) (2 * L.k - 1)
  have h4 := chunks_flat L.queries (L.a + L.b + L.b + L.b + 3) (((x.drop (1 + L.k)).drop (L.k + L.block - 1)).drop (2 * L.k - 1))
  have h5 := take_len_le ((((x.drop (1 + L.k)).drop (L.k + L.block - 1)).drop (2 * L.k - 1)).drop (L.queries * (L.a + L.b + L.b + L.b + 3))) L.queries
  have h6 := chunks_flat L.queries j (((((x.drop (1 + L.k)).drop (L.k + L.block - 1)).drop (2 * L.k - 1)).drop (L.queries * (L.a + L.b + L.b + L.b + 3))).drop L.queries)
  unfold numsOf szOf
  simp only [ofNums, List.length_append, List.length_cons, List.length_nil]
  rw [Nat.mul_add L.queries (L.a + L.b + L.b + L.b + 3 + 1) j, Nat.mul_add L.queries (L.a + L.b + L.b + L.b + 3) 1]
  omega

/-- The two decoders agree. -/
theorem dec_agree (L : LayR) (j : Nat) (b : List Nat) (hp : 0 < L.p) :
    (∃ P, decOf L j b = (P, true) ∧ pdecOf L j b = (P, 0) ∧ 8 * (numsOf P).length ≤ b.length) ∨ (decOf L j b = (noPr, false) ∧ pdecOf L j b = (noPr, 2)) := by
  by_cases z : b.length = szOf L j
  · have h8 : 8 * (szOf L j / 8) = szOf L j := by have := sum_all L j; omega
    obtain ⟨h1, h2⟩ := decode_law L j b (szOf L j / 8) hp z h8
    cases hk : prOk L j (ofNums L j (wordsOf (szOf L j / 8) b))
    · refine .inr ⟨?_, ?_⟩
      · unfold decOf
        rw [hk, if_neg (fun h => by cases h.2)]
      · unfold pdecOf
        rw [if_neg]
        rintro ⟨-, h⟩
        have := h2 hk
        rw [h] at this
        cases this
    · obtain ⟨a1, a2⟩ := h1 hk
      refine .inl ⟨ofNums L j (wordsOf (szOf L j / 8) b), ?_, ?_, ?_⟩
      · unfold decOf
        rw [hk, if_pos ⟨z, rfl⟩]
      · unfold pdecOf
        rw [if_pos ⟨z, a2⟩, a1]
      · rw [z]
        exact nums_of_len L j _
  · refine .inr ⟨?_, ?_⟩
    · unfold decOf
      rw [if_neg (fun h => z h.1)]
    · unfold pdecOf
      rw [if_neg (fun h => z h.1)]

set_option maxRecDepth 100000 in
set_option maxHeartbeats 4000000 in
theorem proverDecode_walk (W : World) (cs0 : Array Value) (f0 : Fits Try.prog W 32 (Value.agg cs0).cells.toList) (A1 : Option Addr) (n1 c1 : Nat) (f1 : Fits Try.prog W 48 (Value.slice A1 n1 c1).cells.toList) :
    Calls Try.prog 4 #[.agg cs0, .slice A1 n1 c1] W fun e W' => e = .returned (.bool true) ∧ Below W.heap.size W W' := by
  obtain ⟨p, pub, vars, A, B, n, c, m, d, rows, ws, bl, bw, qs, coin, seed, real, rfl, hin⟩ := open_case f0
  have ef : (Value.slice A1 n1 c1).cells.toList = [.slice A1 n1 c1] := rfl
  rw [ef] at f1
  obtain ⟨A1', n1', c1', b, he, hnc, hcm, hrd, hb⟩ := fits_bytes Try.underlying48 Try.underlying5 cellsOf_u8 f1
  simp at he
  obtain ⟨rfl, rfl, rfl⟩ := he
  clear f0 f1
  have gm := max_int hnc hcm
  have hb0 : Below W.heap.size W (W.alloc (.cells #[.int .u64 (p : Int), .int .i64 pub, .int .i64 vars, .slice A n c, .int .i64 bl, .int .i64 bw, .int .i64 qs, .slice B m d, .int .u64 coin, .bool real, .int .u64 seed] 32)) := (Below.refl _ W).alloc (Nat.le_refl _) _
  have HR := Lib.hid (fun w' (hb : Below W.heap.size W w') => rRight27_any p pub vars A B n c m d rows ws bl bw qs coin seed real w' (kept_RSl kept_RRow _ _ _ _ hb hin.rows) (kept_RWd _ _ _ _ hb hin.ws) hin.p)
  have HRD := Lib.hid (fun w' (h : Below W.heap.size W w') => hrd.below h)
  have HBB := Lib.hid hb
  have HNC := Lib.hid (And.intro hnc hcm)
  have hlb := hrd.len1
  rw [len_U8] at hlb
  have HLB := Lib.hid hlb
  clear hin hrd hb hnc hcm hlb
  go_enter Try.func4, Try.ntmps4
  go_wp2_with fail
  refine (HR.out _ hb0).mono ?_
  rintro e w1 ⟨hpost, hb⟩
  have hbw := below_chain hb0 hb
  obtain ⟨y0, y1, y2, y3, y4, y5, y6, y7, y8, y9, y10, bb, s, rfl, hL⟩ := hpost
  clear hb hb0
  cases bb
  · have hbl := hbw.alloc hbw.size (.cells #[.int .u64 y0, .int .i64 y1, .int .i64 y2, .int .i64 y3, .int .i64 y4, .int .i64 y5, .int .i64 y6, .int .i64 y7, .int .i64 y8, .int .i64 y9, .int .i64 y10] 38)
    clear hL
    go_wp2_with fail
    refine (awake_any _).mono ?_
    rintro e w2 ⟨rfl, hb2⟩
    replace hbl := below_chain hbl hb2
    go_wp2_with fail
    refine (awake_any _).mono ?_
    rintro e w3 ⟨rfl, hb3⟩
    go_wp2
    go_ret
    exact ⟨rfl, below_chain hbl hb3⟩
  · obtain ⟨L, hok, -, hn64, -, hLL⟩ := hL rfl
    obtain ⟨rfl, rfl, rfl, rfl, rfl, rfl, rfl, rfl, rfl, rfl, rfl⟩ := layCs_inj hLL
    obtain ⟨j, hj⟩ := hok.n
    have hj10 := pow_bound hj hok.n2
    have hpos : 0 < L.p := by have := (okP_lt hok.p).1; omega
    have HP := Lib.hid (fun w => program_any L w)
    have HS1 := Lib.hid (fun w => size_any L j w hok hj hj10)
    have HS2 := Lib.hid (fun w => size27_any L j w hok hj hj10)
    have HAG := Lib.hid (dec_agree L j b hpos)
    have hn1 : n1 = b.length := HLB.out.symm
    have H1 := Lib.hid (fun A c w hr (h1 : n1 ≤ c) h2 (h3 : n1 ≤ 1000000) => pDecode_any L j A n1 c b w hok hj hj10 hr h1 h2 h3 HBB.out)
    have H2 := Lib.hid (fun w hr (h3 : n1 ≤ 1000000) => rDecode_any L j A1 n1 c1 b w hok hj hj10 hr HNC.out.1 HNC.out.2 h3 HBB.out)
    clear hL hLL hok hj hj10 hn64 HR hpos hn1
    generalize hD1 : decOf L j b = D1 at *
    generalize hD2 : pdecOf L j b = D2 at *
    clear hD1 hD2
    generalize hsz : szOf L j = sz at *
    clear hsz
    unfold layCs at *
    have hbl := hbw.alloc hbw.size (.cells #[.int .u64 (L.p : Int), .int .i64 (L.block : Int), .int .i64 (L.queries : Int), .int .i64 (L.k : Int), .int .i64 (L.n : Int), .int .i64 (L.secret : Int), .int .i64 (L.rows : Int), .int .i64 (L.a : Int), .int .i64 (L.b : Int), .int .i64 (L.b : Int), .int .i64 (L.b : Int)] 38)
    have kl := Blk.new w1 38 #[.int .u64 (L.p : Int), .int .i64 (L.block : Int), .int .i64 (L.queries : Int), .int .i64 (L.k : Int), .int .i64 (L.n : Int), .int .i64 (L.secret : Int), .int .i64 (L.rows : Int), .int .i64 (L.a : Int), .int .i64 (L.b : Int), .int .i64 (L.b : Int), .int .i64 (L.b : Int)]
    clear hbw
    go_wp2_with fail
    generalize w1.alloc _ = w2 at hbl kl ⊢
    generalize w1.heap.size = g at kl ⊢
    refine (awake_any _).mono ?_
    rintro e w3 ⟨rfl, hb3⟩
    replace kl := kl.below hb3 kl.lt
    replace hbl := below_chain hbl hb3
    clear hb3
    by_cases hbig : 40000 < n1
    · have g1 : (40000 : Int) < (n1 : Int) := by omega
      clear hbig
      go_wp2_with fail
      refine (awake_any _).mono ?_
      rintro e w4 ⟨rfl, hb4⟩
      go_wp2
      go_ret
      exact ⟨rfl, below_chain hbl hb4⟩
    have g1 : ¬ ((40000 : Int) < (n1 : Int)) := by omega
    have g2 : (n1 : Int) ≤ 40000 := by omega
    have HN := Lib.hid (show n1 ≤ 40000 by omega)
    clear hbig
    have cl := kl.cell
    go_wp2_with fail
    refine (HP.out _).mono ?_
    rintro e w4 ⟨rfl, hb4⟩
    replace kl := kl.below hb4 kl.lt
    replace hbl := below_chain hbl hb4
    clear hb4 cl
    go_wp2_with (at_builtin; refine wpl_append rfl _ _ rfl el_u8 rfl (own_empty w4 5 (Nat.le_refl _)) rfl (HRD.out _ (hbl.alloc hbl.size _)) (one_U8 b) (by have := HN.out; omega) (by simp) ?_)
    intro v' wn hown' hgrow hblk
    have hal := (Below.refl w4.heap.size w4).alloc (Nat.le_refl _) (.cells #[] 5)
    have hB : Below w4.heap.size (w4.alloc (.cells #[] 5)) wn := own_grow (own_empty w4 5 (Nat.le_refl _)) hgrow (by simp)
    have hB2 := hal.trans hB
    obtain ⟨Av, cv, rfl, hv1, hv2, hv3, -⟩ := own_form hown'
    try simp only [List.nil_append] at hv3
    try simp only [Nat.zero_add] at hv1 hv3
    replace kl := kl.below hB2 kl.lt
    replace hbl := below_chain hbl hB2
    have HD1 := Lib.hid (H1.out Av cv wn hv3 hv1 hv2 (by have := HN.out; omega))
    clear hown' hgrow hblk hal hB hB2 hv3
    go_wp2_with fail
    refine HD1.out.mono ?_
    rintro e w5 ⟨S, rfl, hin1, hb5⟩
    replace kl := kl.below hb5 kl.lt
    replace hbl := below_chain hbl hb5
    clear hb5 HD1 H1
    rcases HAG.out with ⟨P, hd1, hd2, hlen⟩ | ⟨hd1, hd2⟩
    · subst hd1 hd2
      simp only at hin1
      have HLEN := Lib.hid (show (numsOf P).length ≤ 1000000 by have := HLB.out; have := HN.out; omega)
      clear hlen
      unfold prCs
      have hal := (Below.refl w5.heap.size w5).alloc (Nat.le_refl _) (.cells #[.int .u64 (P.root : Int), .slice S.A1 S.n1 S.c1, .slice S.A2 S.n2 S.c2, .slice S.A3 S.n3 S.c3, .slice S.A4 S.n4 S.c4, .slice S.A5 S.n5 S.c5, .slice S.A6 S.n6 S.c6] 35)
      have kp := Blk.new w5 35 #[.int .u64 (P.root : Int), .slice S.A1 S.n1 S.c1, .slice S.A2 S.n2 S.c2, .slice S.A3 S.n3 S.c3, .slice S.A4 S.n4 S.c4, .slice S.A5 S.n5 S.c5, .slice S.A6 S.n6 S.c6]
      replace kl := kl.below hal kl.lt
      replace hbl := below_chain hbl hal
      replace hin1 := prIn_below hin1 hal
      go_upto_region 5 with fail
      generalize w5.alloc _ = w6 at hal kp kl hbl hin1 ⊢
      generalize w5.heap.size = gp at kp ⊢
      clear hal
      have cl := kl.cell
      have HD2 := Lib.hid (H2.out w6 (HRD.out _ hbl) (by have := HN.out; omega))
      go_wp2_with fail
      refine HD2.out.mono ?_
      rintro e w7 ⟨S', rfl, hin2, hb7⟩
      simp only at hin2
      unfold prCs
      replace kl := kl.below hb7 kl.lt
      replace kp := kp.below hb7 kp.lt
      replace hbl := below_chain hbl hb7
      replace hin1 := prIn_below hin1 hb7
      clear hb7 HD2 H2 cl
      have hal := (Below.refl w7.heap.size w7).alloc (Nat.le_refl _) (.cells #[.int .u64 (P.root : Int), .slice S'.A1 S'.n1 S'.c1, .slice S'.A2 S'.n2 S'.c2, .slice S'.A3 S'.n3 S'.c3, .slice S'.A4 S'.n4 S'.c4, .slice S'.A5 S'.n5 S'.c5, .slice S'.A6 S'.n6 S'.c6] 35)
      have kq := Blk.new w7 35 #[.int .u64 (P.root : Int), .slice S'.A1 S'.n1 S'.c1, .slice S'.A2 S'.n2 S'.c2, .slice S'.A3 S'.n3 S'.c3, .slice S'.A4 S'.n4 S'.c4, .slice S'.A5 S'.n5 S'.c5, .slice S'.A6 S'.n6 S'.c6]
      replace kl := kl.below hal kl.lt
      replace kp := kp.below hal kp.lt
      replace hbl := below_chain hbl hal
      replace hin1 := prIn_below hin1 hal
      replace hin2 := prIn_below hin2 hal
      go_upto_region 6 with fail
      generalize w7.alloc _ = w8 at hal kp kq kl hbl hin1 hin2 ⊢
      generalize w7.heap.size = gq at kq ⊢
      clear hal
      have cl := kl.cell
      have cp := kp.cell
      have cq := kq.cell
      have ll := kl.lt
      have lp := kp.lt
      have lq := kq.lt
      have HSM := Lib.hid (fun w' (h : Below w8.heap.size w8 w') => same27_any P S S' w' (prIn_below hin1 h) (prIn_below hin2 h) HLEN.out)
      unfold prCs at HSM
      clear kl kp kq hin1 hin2
      go_wp2_with fail
      refine wpO_begin (Later) [2, 9, 10, 12] [0, 1, 2, 3, 4, 5, 6, 7, 8, 11, 9, 10, 12, 13, 14, 15] (by kernel_rfl) (by kernel_rfl) ?_
      refine wpO_start (later_moves) ?_
      intro Wc hacc
      repeat (first | (refine wpO_skip (later_moves) rfl rfl (fun _ _ _ h => h) ?_ ; simp only [Act.put, List.setIfInBounds_toArray, List.set_cons_zero, List.set_cons_succ]) | (refine wpO_light (v := ?_) (later_moves) rfl rfl (fun _ _ _ h => h) ?_ ?_ ; rotate_left ; (· (intro w' hR ; (first | have hcells := later_cellsD ((later_moves).trans _ _ _ hacc hR) | skip) ; go_simp ; try with_reducible rfl)) ; simp only [Act.put, List.setIfInBounds_toArray, List.set_cons_zero, List.set_cons_succ]))
      refine wpO_call (later_moves) rfl rfl rfl (fun _ => by go_simp <;> rfl) ((HSM.out _ (below_chain (Below.refl _ w8).drew hacc)).mono ?_)
      rintro e w9 ⟨rfl, hb9⟩
      refine ⟨_, rfl, hb9, ?_⟩
      replace hacc := (later_moves).trans _ _ _ hacc (hb9)
      simp only [Act.put, List.setIfInBounds_toArray, List.set_cons_zero, List.set_cons_succ]
      repeat (first | (refine wpO_skip (later_moves) rfl rfl (fun _ _ _ h => h) ?_ ; simp only [Act.put, List.setIfInBounds_toArray, List.set_cons_zero, List.set_cons_succ]) | (refine wpO_light (v := ?_) (later_moves) rfl rfl (fun _ _ _ h => h) ?_ ?_ ; rotate_left ; (· (intro w' hR ; (first | have hcells := later_cellsD ((later_moves).trans _ _ _ hacc hR) | skip) ; go_simp ; try with_reducible rfl)) ; simp only [Act.put, List.setIfInBounds_toArray, List.set_cons_zero, List.set_cons_succ]))
      refine wpO_call (later_moves) rfl rfl rfl (fun _ => by go_simp <;> rfl) ((HP.out _).mono ?_)
      rintro e w10 ⟨rfl, hb10⟩
      refine ⟨_, rfl, hb10, ?_⟩
      replace hacc := (later_moves).trans _ _ _ hacc (hb10)
      simp only [Act.put, List.setIfInBounds_toArray, List.set_cons_zero, List.set_cons_succ]
      repeat (first | (refine wpO_skip (later_moves) rfl rfl (fun _ _ _ h => h) ?_ ; simp only [Act.put, List.setIfInBounds_toArray, List.set_cons_zero, List.set_cons_succ]) | (refine wpO_light (v := ?_) (later_moves) rfl rfl (fun _ _ _ h => h) ?_ ?_ ; rotate_left ; (· (intro w' hR ; (first | have hcells := later_cellsD ((later_moves).trans _ _ _ hacc hR) | skip) ; go_simp ; try with_reducible rfl)) ; simp only [Act.put, List.setIfInBounds_toArray, List.set_cons_zero, List.set_cons_succ]))
      refine wpO_call (later_moves) rfl rfl rfl (fun _ => by go_simp <;> rfl) ((HS1.out _).mono ?_)
      rintro e w11 ⟨rfl, hb11⟩
      refine ⟨_, rfl, hb11, ?_⟩
      replace hacc := (later_moves).trans _ _ _ hacc (hb11)
      simp only [Act.put, List.setIfInBounds_toArray, List.set_cons_zero, List.set_cons_succ]
      repeat (first | (refine wpO_skip (later_moves) rfl rfl (fun _ _ _ h => h) ?_ ; simp only [Act.put, List.setIfInBounds_toArray, List.set_cons_zero, List.set_cons_succ]) | (refine wpO_light (v := ?_) (later_moves) rfl rfl (fun _ _ _ h => h) ?_ ?_ ; rotate_left ; (· (intro w' hR ; (first | have hcells := later_cellsD ((later_moves).trans _ _ _ hacc hR) | skip) ; go_simp ; try with_reducible rfl)) ; simp only [Act.put, List.setIfInBounds_toArray, List.set_cons_zero, List.set_cons_succ]))
      refine wpO_call (later_moves) rfl rfl rfl (fun _ => by go_simp <;> rfl) ((HS2.out _).mono ?_)
      rintro e w12 ⟨rfl, hb12⟩
      refine ⟨_, rfl, hb12, ?_⟩
      replace hacc := (later_moves).trans _ _ _ hacc (hb12)
      simp only [Act.put, List.setIfInBounds_toArray, List.set_cons_zero, List.set_cons_succ]
      repeat (first | (refine wpO_skip (later_moves) rfl rfl (fun _ _ _ h => h) ?_ ; simp only [Act.put, List.setIfInBounds_toArray, List.set_cons_zero, List.set_cons_succ]) | (refine wpO_light (v := ?_) (later_moves) rfl rfl (fun _ _ _ h => h) ?_ ?_ ; rotate_left ; (· (intro w' hR ; (first | have hcells := later_cellsD ((later_moves).trans _ _ _ hacc hR) | skip) ; go_simp ; try with_reducible rfl)) ; simp only [Act.put, List.setIfInBounds_toArray, List.set_cons_zero, List.set_cons_succ]))
      refine wpO_done ?_
      go_wp2
      go_ret
      exact ⟨rfl, below_chain hbl.drew hacc⟩
    · subst hd1 hd2
      simp only at hin1
      have HLEN := Lib.hid (show (numsOf noPr).length ≤ 1000000 by decide)
      have ez : prCs noPr S = #[.int .u64 0, .slice S.A1 S.n1 S.c1, .slice S.A2 S.n2 S.c2, .slice S.A3 S.n3 S.c3, .slice S.A4 S.n4 S.c4, .slice S.A5 S.n5 S.c5, .slice S.A6 S.n6 S.c6] := rfl
      simp only
      rw [ez]
      have hal := (Below.refl w5.heap.size w5).alloc (Nat.le_refl _) (.cells #[.int .u64 0, .slice S.A1 S.n1 S.c1, .slice S.A2 S.n2 S.c2, .slice S.A3 S.n3 S.c3, .slice S.A4 S.n4 S.c4, .slice S.A5 S.n5 S.c5, .slice S.A6 S.n6 S.c6] 35)
      have kp := Blk.new w5 35 #[.int .u64 0, .slice S.A1 S.n1 S.c1, .slice S.A2 S.n2 S.c2, .slice S.A3 S.n3 S.c3, .slice S.A4 S.n4 S.c4, .slice S.A5 S.n5 S.c5, .slice S.A6 S.n6 S.c6]
      replace kl := kl.below hal kl.lt
      replace hbl := below_chain hbl hal
      replace hin1 := prIn_below hin1 hal
      go_upto_region 5 with fail
      generalize w5.alloc _ = w6 at hal kp kl hbl hin1 ⊢
      generalize w5.heap.size = gp at kp ⊢
      clear hal ez
      have cl := kl.cell
      have HD2 := Lib.hid (H2.out w6 (HRD.out _ hbl) (by have := HN.out; omega))
      go_wp2_with fail
      refine HD2.out.mono ?_
      rintro e w7 ⟨S', rfl, hin2, hb7⟩
      have ez : prCs noPr S' = #[.int .u64 0, .slice S'.A1 S'.n1 S'.c1, .slice S'.A2 S'.n2 S'.c2, .slice S'.A3 S'.n3 S'.c3, .slice S'.A4 S'.n4 S'.c4, .slice S'.A5 S'.n5 S'.c5, .slice S'.A6 S'.n6 S'.c6] := rfl
      simp only
      rw [ez]
      replace kl := kl.below hb7 kl.lt
      replace kp := kp.below hb7 kp.lt
      replace hbl := below_chain hbl hb7
      replace hin1 := prIn_below hin1 hb7
      clear hb7 HD2 H2 cl ez hin2
      have hal := (Below.refl w7.heap.size w7).alloc (Nat.le_refl _) (.cells #[.int .u64 0, .slice S'.A1 S'.n1 S'.c1, .slice S'.A2 S'.n2 S'.c2, .slice S'.A3 S'.n3 S'.c3, .slice S'.A4 S'.n4 S'.c4, .slice S'.A5 S'.n5 S'.c5, .slice S'.A6 S'.n6 S'.c6] 35)
      replace kl := kl.below hal kl.lt
      replace kp := kp.below hal kp.lt
      replace hbl := below_chain hbl hal
      replace hin1 := prIn_below hin1 hal
      go_upto_region 6 with fail
      generalize w7.alloc _ = w8 at hal kp kl hbl hin1 ⊢
      generalize w7.heap.size = gq at ⊢
      clear hal
      have cp := kp.cell
      have lp := kp.lt
      have HSM := Lib.hid (same27_any noPr S noPS w8 hin1 (noPr_in w8) HLEN.out)
      simp only [prCs, noPr, noPS, Int.natCast_zero] at HSM
      clear kl kp hin1
      go_wp2_with fail
      refine HSM.out.mono ?_
      rintro e w9 ⟨rfl, hb9⟩
      go_wp2
      go_ret
      exact ⟨rfl, below_chain hbl hb9⟩
end Go.Proofs.Ytkaecidnkkcbaaa

