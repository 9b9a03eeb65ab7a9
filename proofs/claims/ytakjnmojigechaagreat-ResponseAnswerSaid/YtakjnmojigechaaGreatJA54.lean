/- A part of the proof: ReBJ. No condition. -/
import Derived.Test.YtakjnmojigechaaGreatJA52
import Derived.Test.YtakjnmojigechaaGreatJA38
import Derived.Test.YtakjnmojigechaaGreatJA53
import Derived.Test.YtakjnmojigechaaGreatJA43

namespace Go.Proofs.YtakjnmojigechaaGreat
open Go.RowKit
theorem cellsOf_case26 : Tryz.prog.cellsOf 35 = 14 := by kernel_rfl
theorem cellsOf_chal26 : Tryz.prog.cellsOf 32 = 3 := by kernel_rfl
theorem cellsOf_u16 : Tryz.prog.cellsOf 50 = 1 := by kernel_rfl
theorem cellsOf_u16s : Tryz.prog.cellsOf 33 = 1 := by kernel_rfl
theorem setIn_below {w w' : World} {L : LayR} {p pu : Nat} {vars : Int} {rows : List RowR} {ws : List Nat} {seed : Nat} {vm c0 c1 c2 c3 c4 : Value} {M : List (List Nat)} (h : Below w.heap.size w w') (k : SetIn w L p pu vars rows ws seed vm c0 c1 c2 c3 c4 M) : SetIn w' L p pu vars rows ws seed vm c0 c1 c2 c3 c4 M :=
  ⟨k.ok, k.p, k.tf, k.vo, k.len, k.ws, k.ml, k.mr, k.mlt, kept_RRows _ _ _ _ h k.m, kept_RRows _ _ _ _ h k.r, kept_RWd _ _ _ _ h k.co, kept_RWd _ _ _ _ h k.li, kept_RWd _ _ _ _ h k.qu, kept_RWd _ _ _ _ h k.sa⟩
structure Case26In (w : World) (p : Nat) (pub vars : Int) (A B A1 B1 : Option Addr) (n c m d na ca nb cb : Nat) (rows : List RowR) (ws lat lby : List Nat) (seed : Nat) : Prop where
  p : p < 18446744073709551616
  rows : RSl 3 RRow w [.slice A n c] rows
  ws : RWd w [.slice B m d] ws
  seed : seed < 18446744073709551616
  lat : RSl 1 R16 w [.slice A1 na ca] lat
  lby : RWd w [.slice B1 nb cb] lby
theorem open_case26 {w : World} {cs0 : Array Value} (f0 : Fits Tryz.prog w 35 (Value.agg cs0).cells.toList) :
    ∃ (p : Nat) (pub vars : Int) (A B A1 B1 : Option Addr) (n c m d na ca nb cb : Nat) (rows : List RowR) (ws lat lby : List Nat) (bl bw qs : Int) (seed al rho be : Nat), cs0 = case26 p pub vars (.slice A n c) bl bw qs (.slice B m d) seed al rho be (.slice A1 na ca) (.slice B1 nb cb) ∧ Case26In w p pub vars A B A1 B1 n c m d na ca nb cb rows ws lat lby seed := by
  have e1 : (Value.agg cs0).cells = cs0 := rfl
  rw [e1] at f0
  clear e1
  have hl := (fits_struct Tryz.underlying35 f0).1
  rw [cellsOf_case26] at hl
  obtain ⟨cs, hcs⟩ : ∃ cs : List Value, cs0.toList = cs := ⟨_, rfl⟩
  rw [hcs] at hl f0
  obtain rfl : cs0 = cs.toArray := by rw [← hcs]
  clear hcs
  match cs, hl with
  | [x0, x1, x2, x3, x4, x5, x6, x7, x8, x9, x10, x11, x12, x13], _ =>
    obtain ⟨p, pub, vars, A, B, n, c, m, d, rows, ws, bl, bw, qs, hc, hin⟩ := fits_case24 rfl (fits_field (i := 0) Tryz.underlying35 rfl rfl cellsOf_case24 f0)
    obtain ⟨seed, hs, hs1⟩ := fits_u64 Tryz.underlying22 (fits_field (i := 1) Tryz.underlying35 rfl rfl cellsOf_u64 f0)
    have hx := fits_field (i := 2) Tryz.underlying35 rfl rfl cellsOf_chal26 f0
    obtain ⟨al, ha, -⟩ := fits_u64 Tryz.underlying22 (fits_field (i := 0) Tryz.underlying32 rfl rfl cellsOf_u64 hx)
    obtain ⟨rho, hb, -⟩ := fits_u64 Tryz.underlying22 (fits_field (i := 1) Tryz.underlying32 rfl rfl cellsOf_u64 hx)
    obtain ⟨be, he, -⟩ := fits_u64 Tryz.underlying22 (fits_field (i := 2) Tryz.underlying32 rfl rfl cellsOf_u64 hx)
    obtain ⟨lat, hat⟩ := fits_RSl (R := R16) 1 Tryz.underlying33 cellsOf_u16 (fun cs' _ hf => by
      obtain ⟨x, rfl, hw⟩ := fits_int Tryz.underlying50 hf
      have hx : 0 ≤ x ∧ x ≤ 65535 := by simpa [Lit.wf, IntKind.min, IntKind.max, IntKind.signed, IntKind.bits] using hw
      obtain ⟨y, rfl⟩ := Int.eq_ofNat_of_zero_le hx.1
      exact ⟨y, rfl, by omega⟩) (fits_field (i := 3) Tryz.underlying35 rfl rfl cellsOf_u16s f0)
    obtain ⟨lby, hby⟩ := fits_RWd Tryz.underlying28 Tryz.underlying22 cellsOf_u64 (fits_field (i := 4) Tryz.underlying35 rfl rfl cellsOf_words f0)
    simp [caseCs] at hc hs ha hb he hat hby
    obtain ⟨A1, na, ca, e1, -⟩ := id hat
    obtain ⟨B1, nb, cb, e2, -⟩ := id hby
    simp only [List.cons.injEq, and_true] at e1 e2
    subst hs ha hb he e1 e2
    obtain ⟨rfl, rfl, rfl, rfl, rfl, rfl, rfl, rfl⟩ := hc
    exact ⟨p, pub, vars, A, B, A1, B1, n, c, m, d, na, ca, nb, cb, rows, ws, lat, lby, bl, bw, qs, seed, al, rho, be, rfl, hin.p, hin.rows, hin.ws, hs1, hat, hby⟩
def Agg3At (n1 n2 n3 : Nat) (x1 x2 x3 : List Value) (i : Nat) : Fact := fun vs F w => ∃ A1 c1 A2 c2 A3 c3, vs i = .agg #[.slice A1 n1 c1, .slice A2 n2 c2, .slice A3 n3 c3] ∧
  (w.ownsRow 0 22 1 (.slice A1 n1 c1) n1 x1 ∧ ∀ g, (Value.slice A1 n1 c1).ownBlock = some g → F g) ∧ (w.ownsRow 0 22 1 (.slice A2 n2 c2) n2 x2 ∧ ∀ g, (Value.slice A2 n2 c2).ownBlock = some g → F g) ∧ (w.ownsRow 0 22 1 (.slice A3 n3 c3) n3 x3 ∧ ∀ g, (Value.slice A3 n3 c3).ownBlock = some g → F g)
theorem own_kept {F : Nat → Prop} {w w' : World} {base : Nat} {e : TypeId} {size : Nat} {v : Value} {n : Nat} {xs : List Value} (h : w.ownsRow base e size v n xs ∧ ∀ g, v.ownBlock = some g → F g) (hk : ∀ b, F b → w'.heap[b]? = w.heap[b]?) : w'.ownsRow base e size v n xs ∧ ∀ g, v.ownBlock = some g → F g := by
  obtain ⟨⟨h1, h2⟩, h3⟩ := h
  refine ⟨⟨h1, ?_⟩, h3⟩
  rcases h2 with h2 | ⟨g, cap, cur, hv, hg, hh, r⟩
  · exact .inl h2
  · exact .inr ⟨g, cap, cur, hv, hg, by rw [hk g (h3 g (by rw [hv]; rfl))]; exact hh, r⟩
theorem stays_agg3 {p : Nat → Fact} {B : Nat} {X : Nat → Prop} {w0 : World} {s : Step} {n1 n2 n3 : Nat} {x1 x2 x3 : List Value} (hp : p s.i = Agg3At n1 n2 n3 x1 x2 x3 s.i) : Stays p B X w0 s := by
  intro vs us F w w' _ _ h _ hk hv
  rw [hp] at hv ⊢
  obtain ⟨A1, c1, A2, c2, A3, c3, e, h1, h2, h3⟩ := hv
  exact ⟨A1, c1, A2, c2, A3, c3, by rw [h _ (by simp), e], own_kept h1 hk, own_kept h2 hk, own_kept h3 hk⟩
theorem agg3_of {w w' : World} {n1 n2 n3 : Nat} {x1 x2 x3 : List Value} {v1 v2 v3 : Value} {F : Nat → Nat → Prop} {eat : List Nat} {vs : Nat → Value} {i : Nat} (h1 : w'.ownsRow w.heap.size 22 1 v1 n1 x1) (h2 : w'.ownsRow w.heap.size 22 1 v2 n2 x2) (h3 : w'.ownsRow w.heap.size 22 1 v3 n3 x3) : Agg3At n1 n2 n3 x1 x2 x3 i (upd vs i (.agg #[v1, v2, v3])) (Grown w w' F eat) w' := by
  obtain ⟨A1, c1, rfl, -⟩ := own_form h1
  obtain ⟨A2, c2, rfl, -⟩ := own_form h2
  obtain ⟨A3, c3, rfl, -⟩ := own_form h3
  exact ⟨A1, c1, A2, c2, A3, c3, upd_self _ _ _, ⟨own_base h1 (Nat.zero_le _), fun g e => .inl (h1.lt g e)⟩, ⟨own_base h2 (Nat.zero_le _), fun g e => .inl (h2.lt g e)⟩, ⟨own_base h3 (Nat.zero_le _), fun g e => .inl (h3.lt g e)⟩⟩
theorem fitOk_lt {L : LayR} {a b c : List Nat} (hp : L.p < 18446744073709551616) (h : fitOk L a b c = true) : (∀ x ∈ a, x < 18446744073709551616) ∧ (∀ x ∈ b, x < 18446744073709551616) ∧ (∀ x ∈ c, x < 18446744073709551616) := by
  unfold fitOk at h
  simp only [Bool.and_eq_true, List.all_eq_true, decide_eq_true_eq] at h
  exact ⟨fun x hx => Nat.lt_trans (h.1.1.2 x hx) hp, fun x hx => Nat.lt_trans (h.1.2 x hx) hp, fun x hx => Nat.lt_trans (h.2 x hx) hp⟩
set_option maxRecDepth 100000 in
set_option maxHeartbeats 2000000 in
theorem responseAnswer_walk (W : World) (cs0 : Array Value) (f0 : Fits Tryz.prog W 35 (Value.agg cs0).cells.toList) :
    Calls Tryz.prog 3 #[.agg cs0] W fun e W' => e = .returned (.bool true) ∧ Below W.heap.size W W' := by
  obtain ⟨p, pub, vars, A, B, A1, B1, n, c, m, d, na, ca, nb, cb, rows, ws, lat, lby, bl, bw, qs, seed, al, rho, be, rfl, hin⟩ := open_case26 f0
  clear f0
  have HSet := Lib.hid (fun w' (hb : Below W.heap.size W w') => setup_any 24 p pub vars A B A1 B1 n c m d na ca nb cb rows ws lat lby bl bw qs seed al rho be w' (kept_RSl kept_RRow _ _ _ _ hb hin.rows) (kept_RWd _ _ _ _ hb hin.ws) hin.p (kept_RSl kept_R16 _ _ _ _ hb hin.lat) (kept_RWd _ _ _ _ hb hin.lby) hin.seed)
  have HRows := Lib.hid (fun w' (hb : Below W.heap.size W w') => kept_RSl kept_RRow _ _ _ _ hb hin.rows)
  have HAw := Lib.hid (fun w => awake26_any w)
  have HS := Lib.hid (fun A1 A2 n1 c1 n2 c2 l1 l2 w h1 h2 => rSame01_any A1 A2 n1 c1 n2 c2 l1 l2 w h1 h2)
  clear hin
  unfold case26 at *
  have kb := Blk.new W 35 #[.int .u64 (p : Int), .int .i64 pub, .int .i64 vars, .slice A n c, .int .i64 bl, .int .i64 bw, .int .i64 qs, .slice B m d, .int .u64 (seed : Int), .int .u64 (al : Int), .int .u64 (rho : Int), .int .u64 (be : Int), .slice A1 na ca, .slice B1 nb cb]
  have hb0 : Below W.heap.size W (W.alloc (.cells #[.int .u64 (p : Int), .int .i64 pub, .int .i64 vars, .slice A n c, .int .i64 bl, .int .i64 bw, .int .i64 qs, .slice B m d, .int .u64 (seed : Int), .int .u64 (al : Int), .int .u64 (rho : Int), .int .u64 (be : Int), .slice A1 na ca, .slice B1 nb cb] 35)) := (Below.refl _ W).alloc (Nat.le_refl _) _
  go_enter Tryz.func3, Tryz.ntmps3
  go_upto_region 1 with fail
  generalize W.alloc _ = w0 at hb0 kb ⊢
  go_wp2_with fail
  refine (HAw.out _).mono ?_
  rintro e w1 ⟨rfl, hb1⟩
  replace kb := kb.below hb1 kb.lt
  replace hb0 := below_chain hb0 hb1
  clear hb1 HAw
  have cb0 := kb.cell
  go_wp2_with fail
  refine (HSet.out _ hb0).mono ?_
  rintro e w2 ⟨⟨y0, y1, y2, y3, y4, y5, y6, y7, y8, y9, y10, b, vm, c0, c1, c2, c3, c4, z0, z1, z2, rfl, ⟨AM, nM, cM, rfl⟩, ⟨D0, n0, k0, rfl⟩, ⟨D1, n1, k1, rfl⟩, ⟨D2, n2, k2, rfl⟩, ⟨D3, n3, k3, rfl⟩, ⟨D4, n4, k4, rfl⟩, hT⟩, hb2⟩
  have HT := Lib.hid hT
  replace kb := kb.below hb2 kb.lt
  replace hb0 := below_chain hb0 hb2
  clear hb2 HSet cb0 hT
  obtain ⟨kl, kc, kx, hbx, -⟩ := boxes3 w2 39 42 32 #[.int .u64 y0, .int .i64 y1, .int .i64 y2, .int .i64 y3, .int .i64 y4, .int .i64 y5, .int .i64 y6, .int .i64 y7, .int .i64 y8, .int .i64 y9, .int .i64 y10] #[.slice D0 n0 k0, .slice D1 n1 k1, .slice D2 n2 k2, .slice D3 n3 k3, .slice D4 n4 k4] #[.int .u64 (z0 : Int), .int .u64 (z1 : Int), .int .u64 (z2 : Int)]
  go_upto_region 4 with fail
  generalize ((w2.alloc _).alloc _).alloc _ = w3 at kl kc kx hbx ⊢
  replace kb := kb.below hbx kb.lt
  replace hb0 := below_chain hb0 hbx
  generalize w2.heap.size + 1 + 1 = gx at kx ⊢
  generalize w2.heap.size + 1 = gc at kc ⊢
  obtain ⟨gl, hgl⟩ : ∃ gl, gl = w2.heap.size := ⟨_, rfl⟩
  rw [← hgl] at kl ⊢
  clear hgl
  cases b
  · clear HT kl kc kx hbx HRows HS
    go_wp2
    go_ret
    exact ⟨rfl, hb0⟩
  · obtain ⟨L, pu, M, rfl, hcs, hin, rfl, rfl, rfl⟩ := HT.out rfl
    clear HT
    rw [hcs] at kl
    clear hcs
    replace hin := setIn_below hbx hin
    obtain rfl : p = L.p := hin.p.symm
    clear hbx
    have hMT : nM = L.a + L.b + L.b + L.b := by rw [← (rows_at hin.m).1]; exact hin.ml
    have hco := coins_seed L seed (by have := okP_lt hin.ok.p; omega)
    have hml : M.length = (rowsP L seed (L.a + L.b + L.b + L.b)).length := by rw [rowsP_len]; exact hin.ml
    have HAn := Lib.hid (fun w' (hb : Below w3.heap.size w3 w') => answer26_any L pu (rho % L.p) (al % L.p) (be % L.p) vars A AM D0 D1 D2 D3 D4 n c nM cM n0 n1 n2 n3 n4 k0 k1 k2 k3 k4 rows M _ _ _ _ _ w' hin.ok hin.tf (HRows.out w' (below_chain hb0 hb)) hin.vo (kept_RRows _ _ _ _ hb hin.m) (kept_RRows _ _ _ _ hb hin.r) (kept_RWd _ _ _ _ hb hin.co) (kept_RWd _ _ _ _ hb hin.li) (kept_RWd _ _ _ _ hb hin.qu) (kept_RWd _ _ _ _ hb hin.sa) hco hin.ml hin.mr)
    have hok : MsgOk L M (rowsP L seed (L.a + L.b + L.b + L.b)) := ⟨hin.ml, by omega, hin.mr, fun x hx => by obtain ⟨i, hi, rfl⟩ := List.getElem_of_mem hx; exact rowsP_row hi⟩
    have HRa := Lib.hid (fun w' (hb : Below w3.heap.size w3 w') => rAnswer26_any L pu (rho % L.p) (al % L.p) (be % L.p) vars A AM D0 D1 D2 D3 D4 n c nM cM n0 n1 n2 n3 n4 k0 k1 k2 k3 k4 rows M _ _ _ _ w' hin.ok hin.tf (HRows.out w' (below_chain hb0 hb)) hin.vo (kept_RRows _ _ _ _ hb hin.m) (kept_RRows _ _ _ _ hb hin.r) (kept_RWd _ _ _ _ hb hin.co) (kept_RWd _ _ _ _ hb hin.li) (kept_RWd _ _ _ _ hb hin.qu) hok (by simp [vecP]) (by simp [vecP]) (by simp [vecP]))
    have hfit := ans_fit hin.ok hok (cs := coefD L pu (rho % L.p) rows) coefD_row (by rw [coefD_len, hin.ml]) (coins_facts hco).2.2.1 (coins_facts hco).2.2.2.1 (coins_facts hco).2.2.2.2.1 (al % L.p) (be % L.p)
    obtain ⟨fl1, fl2, fl3⟩ := fitOk_lt (okP_lt hin.ok.p).2 hfit
    have HF1 := Lib.hid fl1
    have HF2 := Lib.hid fl2
    have HF3 := Lib.hid fl3
    clear hco hml hok hfit fl1 fl2 fl3 hMT hin HRows
    generalize ansCd L M (rowsP L seed (L.a + L.b + L.b + L.b)) (vecP L.p seed [1] L.k) (al % L.p) = N1 at *
    generalize ansLd L (coefD L pu (rho % L.p) rows) M (rowsP L seed (L.a + L.b + L.b + L.b)) (vecP L.p seed [2] (L.k + L.block - 2)) = N2 at *
    generalize ansQd L M (rowsP L seed (L.a + L.b + L.b + L.b)) (vecP L.p seed [3] (L.block + 2 * L.queries - 1)) (be % L.p) = N3 at *
    unfold layCs tabV at *
    have cl := kl.cell
    have ll := kl.lt
    have cc := kc.cell
    have lc := kc.lt
    have cx := kx.cell
    have lx := kx.lt
    have cb := kb.cell
    have lb := kb.lt
    go_upto_region 6 with fail
    refine wpL_begin (From w3.heap.size) [0, 1, 2, 3, 4, 5, 6, 8, 9, 10, 11, 12, 13, 14] 6 (by kernel_rfl) (by kernel_rfl) ?_
    refine wpL_startK (from_moves w3.heap.size) ?_
    intro Wc HWc hacc
    repeat (first | (refine wpL_skip (from_moves w3.heap.size) rfl rfl (fun _ _ _ h => h) ?_ ; simp only [Act.put, List.setIfInBounds_toArray, List.set_cons_zero, List.set_cons_succ]) | (refine wpL_light (v := ?_) (from_moves w3.heap.size) rfl rfl (fun _ _ _ h => h) ?_ ?_ ; rotate_left ; (· (intro w' hR ; (first | have hcells := from_cellsD ((from_moves w3.heap.size).trans _ _ _ hacc hR) | skip) ; go_simp ; try with_reducible rfl)) ; simp only [Act.put, List.setIfInBounds_toArray, List.set_cons_zero, List.set_cons_succ]))
    have hbW : Below w3.heap.size w3 Wc := by rw [HWc.out]; exact (Below.refl _ _).drew
    have hNc : w3.heap.size ≤ Wc.heap.size := hbW.size
    refine wpL_own (from_moves w3.heap.size) [⟨7, [], []⟩, ⟨15, [], []⟩, ⟨16, [], []⟩, ⟨17, [], []⟩] [(7, Agg3At N1.length N2.length N3.length (U64 N1) (U64 N2) (U64 N3) 7), (15, Agg3At N1.length N2.length N3.length (U64 N1) (U64 N2) (U64 N3) 15), (16, BlkAt 46 (fun _ => #[.slice none 0 0, .slice none 0 0, .slice none 0 0]) mkP 16), (17, BlkAt 46 (fun _ => #[.slice none 0 0, .slice none 0 0, .slice none 0 0]) mkP 17)] [(some 29, 7), (some 37, 15), (some 8, 16), (some 9, 17)] [18, 19] [18, 19] (by kernel_rfl) (by kernel_rfl) (by first | exact Nat.le_refl _ | omega) (fun w1 h1 => h1) ?_ ?_ ?_
    · exact List.forall_mem_cons.2 ⟨stays_agg3 rfl, List.forall_mem_cons.2 ⟨stays_agg3 rfl, List.forall_mem_cons.2 ⟨stays_blk rfl (fun _ _ _ => rfl), List.forall_mem_cons.2 ⟨stays_blk rfl (fun _ _ _ => rfl), List.forall_mem_nil _⟩⟩⟩⟩
    · refine List.forall_mem_cons.2 ⟨?_, List.forall_mem_cons.2 ⟨?_, List.forall_mem_cons.2 ⟨?_, List.forall_mem_cons.2 ⟨?_, List.forall_mem_nil _⟩⟩⟩⟩
      · refine task_mk [] rfl (by kernel_rfl) ?_
        intro w1 vs F hb1 hd hdis
        clear hd
        unfold puts
        simp only [List.foldl]
        change Does _ _ _ fun v w' => Near _ w1 w' F [] ∧ Agg3At N1.length N2.length N3.length (U64 N1) (U64 N2) (U64 N3) 7 (upd vs 7 v) (Grown w1 w' F []) w'
        have hB1 := Nat.le_trans hNc hb1.size
        refine does_call (by go_simp <;> rfl) (HAn.out _ (hbW.trans hb1)) ?_
        rintro e w2 ⟨v1, v2, v3, rfl, o1, o2, o3, hb2⟩
        exact ⟨_, rfl, near_below hb2 hB1 _ _, agg3_of o1 o2 o3⟩
      · refine task_mk [] rfl (by kernel_rfl) ?_
        intro w1 vs F hb1 hd hdis
        clear hd
        unfold puts
        simp only [List.foldl]
        change Does _ _ _ fun v w' => Near _ w1 w' F [] ∧ Agg3At N1.length N2.length N3.length (U64 N1) (U64 N2) (U64 N3) 15 (upd vs 15 v) (Grown w1 w' F []) w'
        have hB1 := Nat.le_trans hNc hb1.size
        refine does_call (by go_simp <;> rfl) (HRa.out _ (hbW.trans hb1)) ?_
        rintro e w2 ⟨v1, v2, v3, rfl, o1, o2, o3, hb2⟩
        exact ⟨_, rfl, near_below hb2 hB1 _ _, agg3_of o1 o2 o3⟩
      · refine task_mk [] rfl (by kernel_rfl) ?_
        intro w1 vs F hb1 hd hdis
        clear hd
        unfold puts
        simp only [List.foldl]
        change Does _ _ _ fun v w' => Near _ w1 w' F [] ∧ BlkAt 46 (fun _ => #[.slice none 0 0, .slice none 0 0, .slice none 0 0]) mkP 16 (upd vs 16 v) (Grown w1 w' F []) w'
        have hB1 := Nat.le_trans hNc hb1.size
        exact does_val (v := .pointer (some ⟨w1.heap.size, 0, none⟩)) (w' := w1.alloc (.cells #[.slice none 0 0, .slice none 0 0, .slice none 0 0] 46)) (by go_simp <;> rfl) ⟨near_below ((Below.refl _ _).alloc (Nat.le_refl _) _) hB1 _ _, blk_of (Blk.new _ _ _) (Nat.le_refl _)⟩
      · refine task_mk [] rfl (by kernel_rfl) ?_
        intro w1 vs F hb1 hd hdis
        clear hd
        unfold puts
        simp only [List.foldl]
        change Does _ _ _ fun v w' => Near _ w1 w' F [] ∧ BlkAt 46 (fun _ => #[.slice none 0 0, .slice none 0 0, .slice none 0 0]) mkP 17 (upd vs 17 v) (Grown w1 w' F []) w'
        have hB1 := Nat.le_trans hNc hb1.size
        exact does_val (v := .pointer (some ⟨w1.heap.size, 0, none⟩)) (w' := w1.alloc (.cells #[.slice none 0 0, .slice none 0 0, .slice none 0 0] 46)) (by go_simp <;> rfl) ⟨near_below ((Below.refl _ _).alloc (Nat.le_refl _) _) hB1 _ _, blk_of (Blk.new _ _ _) (Nat.le_refl _)⟩
    intro wf vs F hbf hf hdis
    have f7 : Agg3At N1.length N2.length N3.length (U64 N1) (U64 N2) (U64 N3) 7 vs (F 7) wf ∧ ∀ b, F 7 b → b < wf.heap.size ∧ _ ≤ b := hf _ (.head _) (by decide)
    have f15 : Agg3At N1.length N2.length N3.length (U64 N1) (U64 N2) (U64 N3) 15 vs (F 15) wf ∧ ∀ b, F 15 b → b < wf.heap.size ∧ _ ≤ b := hf _ (.tail _ (.head _)) (by decide)
    have f16 : BlkAt 46 (fun _ => #[.slice none 0 0, .slice none 0 0, .slice none 0 0]) mkP 16 vs (F 16) wf ∧ ∀ b, F 16 b → b < wf.heap.size ∧ _ ≤ b := hf _ (.tail _ (.tail _ (.head _))) (by decide)
    have f17 : BlkAt 46 (fun _ => #[.slice none 0 0, .slice none 0 0, .slice none 0 0]) mkP 17 vs (F 17) wf ∧ ∀ b, F 17 b → b < wf.heap.size ∧ _ ≤ b := hf _ (.tail _ (.tail _ (.tail _ (.head _)))) (by decide)
    clear hf
    unfold puts
    simp only [List.foldl]
    obtain ⟨⟨g16, e16, h16, k16⟩, b16⟩ := f16
    have y16 := (b16 _ h16).2
    obtain ⟨⟨g17, e17, h17, k17⟩, b17⟩ := f17
    have y17 := (b17 _ h17).2
    have n16_17 : g16 ≠ g17 := fun e => hdis 16 17 _ (by decide) h16 (by rw [e]; exact h17)
    simp only [e16, e17]
    clear b16 b17 e16 e17
    try dsimp only [mkS]
    try dsimp only [mkP]
    obtain ⟨⟨P1, p1, P2, p2, P3, p3, e7, ⟨o1, q1⟩, ⟨o2, q2⟩, ⟨o3, q3⟩⟩, -⟩ := f7
    obtain ⟨⟨R1, r1, R2, r2, R3, r3, e15, ⟨o4, q4⟩, ⟨o5, q5⟩, ⟨o6, q6⟩⟩, -⟩ := f15
    have hE : ∀ {a b : Nat}, a ≠ b → some a ≠ some b := fun h e => h (Option.some.inj e)
    have t1 : ∀ q, (Value.slice P1 N1.length p1).ownBlock = some q → some g16 = some q → False := fun q h e => hdis 7 16 q (by decide) (q1 q h) (by rw [← Option.some.inj e]; exact h16)
    have t2 : ∀ q, (Value.slice P2 N2.length p2).ownBlock = some q → some g16 = some q → False := fun q h e => hdis 7 16 q (by decide) (q2 q h) (by rw [← Option.some.inj e]; exact h16)
    have t3 : ∀ q, (Value.slice P3 N3.length p3).ownBlock = some q → some g16 = some q → False := fun q h e => hdis 7 16 q (by decide) (q3 q h) (by rw [← Option.some.inj e]; exact h16)
    have t4 : ∀ q, (Value.slice R1 N1.length r1).ownBlock = some q → some g16 = some q → False := fun q h e => hdis 15 16 q (by decide) (q4 q h) (by rw [← Option.some.inj e]; exact h16)
    have t5 : ∀ q, (Value.slice R2 N2.length r2).ownBlock = some q → some g16 = some q → False := fun q h e => hdis 15 16 q (by decide) (q5 q h) (by rw [← Option.some.inj e]; exact h16)
    have t6 : ∀ q, (Value.slice R3 N3.length r3).ownBlock = some q → some g16 = some q → False := fun q h e => hdis 15 16 q (by decide) (q6 q h) (by rw [← Option.some.inj e]; exact h16)
    have u1 : ∀ q, (Value.slice P1 N1.length p1).ownBlock = some q → some g17 = some q → False := fun q h e => hdis 7 17 q (by decide) (q1 q h) (by rw [← Option.some.inj e]; exact h17)
    have u2 : ∀ q, (Value.slice P2 N2.length p2).ownBlock = some q → some g17 = some q → False := fun q h e => hdis 7 17 q (by decide) (q2 q h) (by rw [← Option.some.inj e]; exact h17)
    have u3 : ∀ q, (Value.slice P3 N3.length p3).ownBlock = some q → some g17 = some q → False := fun q h e => hdis 7 17 q (by decide) (q3 q h) (by rw [← Option.some.inj e]; exact h17)
    have u4 : ∀ q, (Value.slice R1 N1.length r1).ownBlock = some q → some g17 = some q → False := fun q h e => hdis 15 17 q (by decide) (q4 q h) (by rw [← Option.some.inj e]; exact h17)
    have u5 : ∀ q, (Value.slice R2 N2.length r2).ownBlock = some q → some g17 = some q → False := fun q h e => hdis 15 17 q (by decide) (q5 q h) (by rw [← Option.some.inj e]; exact h17)
    have u6 : ∀ q, (Value.slice R3 N3.length r3).ownBlock = some q → some g17 = some q → False := fun q h e => hdis 15 17 q (by decide) (q6 q h) (by rw [← Option.some.inj e]; exact h17)
    rw [e7, e15]
    clear hdis q1 q2 q3 q4 q5 q6 h16 h17 e7 e15 HAn HRa hacc
    replace hbf := hbW.trans hbf
    have hW3 : W.heap.size ≤ w3.heap.size := hb0.size
    replace hb0 := below_chain hb0 hbf
    have hacc := (from_moves w3.heap.size).refl wf
    obtain ⟨c16, r16⟩ := k16.cells'
    repeat (first | (refine wpO_skip (from_moves w3.heap.size) rfl rfl (fun _ _ _ h => h) ?_ ; simp only [Act.put, List.setIfInBounds_toArray, List.set_cons_zero, List.set_cons_succ]) | (refine wpO_light (v := ?_) (from_moves w3.heap.size) rfl rfl (fun _ _ _ h => h) ?_ ?_ ; rotate_left ; (· (intro w' hR ; (first | have hcells := from_cellsD ((from_moves w3.heap.size).trans _ _ _ hacc hR) | skip) ; go_simp ; try with_reducible rfl)) ; simp only [Act.put, List.setIfInBounds_toArray, List.set_cons_zero, List.set_cons_succ]))
    refine wpO_heavy (from_moves w3.heap.size) rfl rfl rfl ?_
    go_simp
    have hg := set3_grown (w := wf) (g := g16) (.slice P1 N1.length p1) (.slice P2 N2.length p2) (.slice P3 N3.length p3)
    replace k16 := set3_blk k16 (.slice P1 N1.length p1) (.slice P2 N2.length p2) (.slice P3 N3.length p3)
    replace k17 := k17.grown hg (hE n16_17.symm)
    replace o1 := own_oth o1 hg t1
    replace o2 := own_oth o2 hg t2
    replace o3 := own_oth o3 hg t3
    replace o4 := own_oth o4 hg t4
    replace o5 := own_oth o5 hg t5
    replace o6 := own_oth o6 hg t6
    refine ⟨below_of_only hg (by have := hbf.size; omega) y16, ?_⟩
    replace hb0 := hb0.trans (below_of_only hg hb0.size (Nat.le_trans hW3 y16))
    replace hbf := hbf.trans (below_of_only hg hbf.size y16)
    clear hg c16 r16 hacc t1 t2 t3 t4 t5 t6
    try simp only [Act.put, List.setIfInBounds_toArray, List.set_cons_zero, List.set_cons_succ]
    generalize ((wf.setCell _ _).setCell _ _).setCell _ _ = wg at *
    have hacc := (from_moves w3.heap.size).refl wg
    obtain ⟨c17, r17⟩ := k17.cells'
    repeat (first | (refine wpO_skip (from_moves w3.heap.size) rfl rfl (fun _ _ _ h => h) ?_ ; simp only [Act.put, List.setIfInBounds_toArray, List.set_cons_zero, List.set_cons_succ]) | (refine wpO_light (v := ?_) (from_moves w3.heap.size) rfl rfl (fun _ _ _ h => h) ?_ ?_ ; rotate_left ; (· (intro w' hR ; (first | have hcells := from_cellsD ((from_moves w3.heap.size).trans _ _ _ hacc hR) | skip) ; go_simp ; try with_reducible rfl)) ; simp only [Act.put, List.setIfInBounds_toArray, List.set_cons_zero, List.set_cons_succ]))
    refine wpO_heavy (from_moves w3.heap.size) rfl rfl rfl ?_
    go_simp
    have hg := set3_grown (w := wg) (g := g17) (.slice R1 N1.length r1) (.slice R2 N2.length r2) (.slice R3 N3.length r3)
    replace k17 := set3_blk k17 (.slice R1 N1.length r1) (.slice R2 N2.length r2) (.slice R3 N3.length r3)
    replace k16 := k16.grown hg (hE n16_17)
    replace o1 := own_oth o1 hg u1
    replace o2 := own_oth o2 hg u2
    replace o3 := own_oth o3 hg u3
    replace o4 := own_oth o4 hg u4
    replace o5 := own_oth o5 hg u5
    replace o6 := own_oth o6 hg u6
    refine ⟨below_of_only hg (by have := hbf.size; omega) y17, ?_⟩
    replace hb0 := hb0.trans (below_of_only hg hb0.size (Nat.le_trans hW3 y17))
    clear hg c17 r17 hacc u1 u2 u3 u4 u5 u6 hbf
    try simp only [Act.put, List.setIfInBounds_toArray, List.set_cons_zero, List.set_cons_succ]
    generalize ((wg.setCell _ _).setCell _ _).setCell _ _ = wh at *
    have hacc := (from_moves w3.heap.size).refl wh
    repeat (first | (refine wpO_skip (from_moves w3.heap.size) rfl rfl (fun _ _ _ h => h) ?_ ; simp only [Act.put, List.setIfInBounds_toArray, List.set_cons_zero, List.set_cons_succ]) | (refine wpO_light (v := ?_) (from_moves w3.heap.size) rfl rfl (fun _ _ _ h => h) ?_ ?_ ; rotate_left ; (· (intro w' hR ; (first | have hcells := from_cellsD ((from_moves w3.heap.size).trans _ _ _ hacc hR) | skip) ; go_simp ; try with_reducible rfl)) ; simp only [Act.put, List.setIfInBounds_toArray, List.set_cons_zero, List.set_cons_succ]))
    refine wpO_done ?_
    clear hacc
    have c16 := k16.cell
    have c17 := k17.cell
    go_wp2_with fail
    refine (HS.out _ _ _ _ _ _ _ _ _ (lw_own o1 HF1.out) (lw_own o4 HF1.out)).mono ?_
    rintro e x1 ⟨rfl, hx⟩
    rw [decide_eq_true (rfl : N1 = N1)]
    replace k16 := k16.below hx k16.lt
    replace k17 := k17.below hx k17.lt
    replace o2 := own_below o2 hx (Nat.le_refl _)
    replace o3 := own_below o3 hx (Nat.le_refl _)
    replace o5 := own_below o5 hx (Nat.le_refl _)
    replace o6 := own_below o6 hx (Nat.le_refl _)
    replace hb0 := below_chain hb0 hx
    clear hx c16 c17 o1 o4
    have c16 := k16.cell
    have c17 := k17.cell
    go_wp2_with fail
    refine (HS.out _ _ _ _ _ _ _ _ _ (lw_own o2 HF2.out) (lw_own o5 HF2.out)).mono ?_
    rintro e x2 ⟨rfl, hx⟩
    rw [decide_eq_true (rfl : N2 = N2)]
    replace k16 := k16.below hx k16.lt
    replace k17 := k17.below hx k17.lt
    replace o3 := own_below o3 hx (Nat.le_refl _)
    replace o6 := own_below o6 hx (Nat.le_refl _)
    replace hb0 := below_chain hb0 hx
    clear hx c16 c17 o2 o5
    have c16 := k16.cell
    have c17 := k17.cell
    go_wp2_with fail
    refine (HS.out _ _ _ _ _ _ _ _ _ (lw_own o3 HF3.out) (lw_own o6 HF3.out)).mono ?_
    rintro e x3 ⟨rfl, hx⟩
    rw [decide_eq_true (rfl : N3 = N3)]
    replace hb0 := below_chain hb0 hx
    go_wp2
    go_ret
    exact ⟨rfl, hb0⟩
end Go.Proofs.YtakjnmojigechaaGreat
