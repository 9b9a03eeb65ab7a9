/-
  prover.Decode.
-/
import Derived.Test.YtkaecidnkkcbaaaPrN
import Derived.Deep.DeepCutAuto
import Derived.RegionTactic
import Derived.ChangeAlike
import Derived.Deep.RegionWith
import Derived.Laws.OwnMore
namespace Go.Proofs.Ytkaecidnkkcbaaa
open Go.RowKit

def pdecOf (L : LayR) (j : Nat) (b : List Nat) : ProofR × Int := if b.length = szOf L j ∧ rdRest L j b = ([], false) then (rdProof L j b, 0) else (noPr, 2)
def PDecPost (w : World) (D : ProofR × Int) (e : Ending) (w' : World) : Prop := ∃ S, e = .returned (.tuple #[.agg (prCs D.1 S), .int .i64 D.2]) ∧ PrIn w' D.1 S ∧ Below w.heap.size w w'

theorem ps_bd {L : LayR} (hL : LayOk L) (j : Nat) (hj : j ≤ 10) (i : Nat) : 0 < (psOf L j i).2 ∧ (psOf L j i).2 ≤ 18446744069414584321 ∧ (psOf L j i).1 ≤ 400003 := by
  have hp : 0 < L.p ∧ L.p ≤ 18446744069414584321 := by
    have := hL.p
    simp [okP] at this
    omega
  have h1 := hL.k
  have h2 := hL.b2
  have h3 := hL.q2
  have h4 := hL.a
  have h5 := hL.b
  have h6 := hL.b1
  simp only [psOf, bigP]
  split
  · exact ⟨hp.1, hp.2, by show L.k ≤ _; omega⟩
  split
  · exact ⟨hp.1, hp.2, by show L.k + L.block - 1 ≤ _; omega⟩
  split
  · exact ⟨hp.1, hp.2, by show 2 * L.k - 1 ≤ _; omega⟩
  split
  · exact ⟨hp.1, hp.2, by show L.a + L.b + L.b + L.b + 3 ≤ _; omega⟩
  split
  · exact ⟨by show 0 < 18446744069414584321; omega, Nat.le_refl _, by show L.queries ≤ _; omega⟩
  · exact ⟨by show 0 < 18446744069414584321; omega, Nat.le_refl _, by show j ≤ _; omega⟩
theorem run_make_n {P : Program} {t e : TypeId} {size bytes : Nat} {z : Value} (E : Elem P t e size bytes z) (n : Nat) (hb : bytes * n ≤ 281474976710656) (hn : (n : Int) ≤ 9223372036854775807) (w : World) :
    (Instr.makeSlice t (.int .i64 (n : Int)) (.int .i64 (n : Int))).run P w = .ok (.slice (some ⟨w.heap.size, 0, none⟩) n n) (w.alloc (.cells (madeCells z.cells (n * size)) e)) := by
  obtain ⟨ht, ⟨i, hi, hz, hs, hby⟩, hzs, hsz⟩ := E
  have := run_make (P := P) w t e i z ht hi hz .i64 .i64 (n : Int) (n : Int) (by omega) (Int.le_refl _) (by rw [hby, ← Int.natCast_mul]; exact Int.ofNat_le.2 hb) hn
  rw [Int.toNat_natCast, hs] at this
  exact this
theorem made_nils (n : Nat) : madeCells (Value.slice none 0 0).cells (n * 1) = ((List.range n).map fun _ => Value.slice none 0 0).toArray := by
  apply Array.toList_inj.1
  rw [show (Value.slice none 0 0).cells = #[.slice none 0 0] from rfl, toList_madeCells_one]
  exact List.ext_getElem (by simp) fun i h1 h2 => by simp

set_option maxRecDepth 100000 in
set_option maxHeartbeats 2000000 in
theorem pDecode_any (L : LayR) (j : Nat) (A : Option Addr) (n c : Nat) (b : List Nat) (w : World) (hL : LayOk L) (hn : L.n = 2 ^ j) (hj : j ≤ 10) (hr : Rd w 1 A n (U8 b)) (hnc : n ≤ c) (hcm : c ≤ maxLen) (hn4 : n ≤ 1000000) (hb : ∀ x ∈ b, x < 256) :
    Calls Try.prog 12 #[.agg (layCs L), .slice A n c] w (PDecPost w (pdecOf L j b)) := by
  have HS := Lib.hid (fun w => size_any L j w hL hn hj)
  have hlen := hr.len1
  rw [len_U8] at hlen
  obtain ⟨D, hD⟩ : ∃ D, D = pdecOf L j b := ⟨_, rfl⟩
  rw [← hD]
  unfold pdecOf at hD
  rw [hlen] at hD
  have gm := max_int hnc hcm
  have q0 : decide ((L.queries : Int) < 0) = false := decide_eq_false (by omega)
  by_cases z : n = szOf L j
  rotate_left
  · have d1 : ((n : Int) != (szOf L j : Nat)) = true := by rw [bne_iff_ne]; omega
    rw [if_neg (fun h => z h.1)] at hD
    have HDD := Lib.hid hD
    clear hD z hlen hr hb hL hn hj hnc hcm hn4
    generalize szOf L j = sz at *
    unfold layCs at HS ⊢
    go_enter Try.func12, Try.ntmps12
    go_wp2_with fail
    refine (HS.out _).mono ?_
    rintro e w1 ⟨rfl, hb⟩
    obtain ⟨k1, k2, hbw⟩ := two_boxes hb
    have l2 := k2.lt
    have c2 := k2.cell
    have f2 := k2.frozen
    clear hb k1
    go_wp2_with fail
    have hg7 := set7_grown (w := w1) (g := w.heap.size + 1) (.int .u64 0) (.slice none 0 0) (.slice none 0 0) (.slice none 0 0) (.slice none 0 0) (.slice none 0 0) (.slice none 0 0)
    have kz := set7_blk k2 (.int .u64 0) (.slice none 0 0) (.slice none 0 0) (.slice none 0 0) (.slice none 0 0) (.slice none 0 0) (.slice none 0 0)
    clear c2 f2 k2
    generalize ((((((World.setCell w1 _ _).setCell _ _).setCell _ _).setCell _ _).setCell _ _).setCell _ _).setCell _ _ = Wf at hg7 kz ⊢
    have cz := kz.cell
    refine bodyPost_ret (v := .tuple #[.agg #[.int .u64 0, .slice none 0 0, .slice none 0 0, .slice none 0 0, .slice none 0 0, .slice none 0 0, .slice none 0 0], .int .i64 2]) (by simp [results, Try.results12, go_sem, cz]) rfl ?_
    rw [HDD.out]
    exact ⟨noPS, rfl, noPr_in _, hbw.trans (below_of_grown hg7 w.heap.size (by omega) (fun g e => by have := Option.some.inj e; omega))⟩
  · have d1 : ((n : Int) != (szOf L j : Nat)) = false := by rw [bne_eq_false_iff_eq]; omega
    have HNR := Lib.hid (fun w' (h : Below w.heap.size w w') => newReader_any A n c b w' (hr.below h) (by omega) hb)
    have HU0 := fun g bd w h => rUint_any g bd (bigP - 1) b false w h
    obtain ⟨⟨rt, l0, f0⟩, hU⟩ : ∃ x, x = rdUint (bigP - 1) b false := ⟨_, rfl⟩
    simp only [← hU] at HU0
    have HU := Lib.hid HU0
    have HRU := Lib.hid hU
    clear HU0 hU
    have hP := Lib.hid (fun P S g b4 q4 b6 q6 w => parts_any L j P S g b4 q4 b6 q6 w hL hn hj)
    have HLL := Lib.hid hL
    have HBD := Lib.hid (ps_bd hL j hj)
    have HZ := Lib.hid z
    have HBB := Lib.hid hb
    have HDz := Lib.hid hD
    clear hD hlen hL hn hj hr hnc hcm hb z
    generalize szOf L j = sz at *
    unfold layCs at HS hP ⊢
    go_enter Try.func12, Try.ntmps12
    go_wp2_with fail
    refine (HS.out _).mono ?_
    rintro e w1 ⟨rfl, hb⟩
    obtain ⟨k1, k2, hbw⟩ := two_boxes hb
    have hs1 := k2.lt
    clear hb
    go_wp2_with fail
    refine (HNR.out _ hbw).mono ?_
    rintro e w2 ⟨g, bd, rfl, hwr, hg1, hg2, hg3, hb2⟩
    replace k1 := k1.below hb2 k1.lt
    replace k2 := k2.below hb2 k2.lt
    have lk1 := k1.lt
    have lk2 := k2.lt
    have hgl := hbw.size
    replace hbw := below_chain hbw hb2
    go_wp2_with fail
    refine (HU.out g bd _ hwr).mono ?_
    rintro e w3 ⟨rfl, hwr3, hgr3⟩
    replace k1 := k1.grown hgr3 (fun e => by have := Option.some.inj e; omega)
    replace k2 := k2.grown hgr3 (fun e => by have := Option.some.inj e; omega)
    replace hbw := hbw.trans (below_of_grown hgr3 w.heap.size (by omega) (fun k e => by have := Option.some.inj e; omega))
    have hal := (Below.refl w3.heap.size w3).alloc (Nat.le_refl _) (.cells #[.int .u64 (rt : Int), .slice none 0 0, .slice none 0 0, .slice none 0 0, .slice none 0 0, .slice none 0 0, .slice none 0 0] 35)
    have kB := Blk.new w3 35 #[.int .u64 (rt : Int), .slice none 0 0, .slice none 0 0, .slice none 0 0, .slice none 0 0, .slice none 0 0, .slice none 0 0]
    have hgB : g < w3.heap.size := hwr3.lt
    replace k1 := k1.below hal k1.lt
    replace k2 := k2.below hal k2.lt
    replace hwr3 := hwr3.below hal (Nat.le_refl _)
    replace hbw := below_chain hbw hal
    have hbd : bd.2 ≤ g := by obtain ⟨A, n, c, p, L, hb, hr', hA, hp⟩ := hwr3; exact hA.2
    clear hwr hb2 hg3 lk1 lk2 hal hgr3
    go_upto_region 5 with fail
    generalize w3.alloc _ = w4 at k1 k2 hwr3 hbw kB ⊢
    generalize w3.heap.size = B at kB hgB ⊢
    clear w3 w2
    have lB := kB.lt
    have HQ := Lib.hid HLL.out.q2
    have hq1 := HLL.out.q2
    go_cut [7] (fun s7 wx => s7 = .pointer (some ⟨B, 0, none⟩) ∧ ∃ C4 C6, B < C4 ∧ B < C6 ∧ C4 ≠ C6 ∧ Dst wx B C4 C6 rt L.queries (fun _ => .slice none 0 0) ∧ WR wx g bd l0 f0 ∧ Ex4 g B C4 C6 w4 wx)
    case first =>
      obtain ⟨CS, hCS⟩ : ∃ CS, CS = ((List.range L.queries).map fun _ => Value.slice none 0 0).toArray := ⟨_, rfl⟩
      have hmk := run_make_n el_lists L.queries (by omega) (by omega)
      rw [made_nils, ← hCS] at hmk
      have HCS := Lib.hid hCS
      have H1 := Lib.hid (fun (C4 C6 : Nat) hC => dec_start (C4 := C4) (C6 := C6) kB hwr3 hgB hbd hC hCS)
      clear hCS
      have c1 := k1.cell
      have cB := kB.cell
      have fB := kB.frozen
      have l1 := k1.lt
      go_region
      · go_wp2_with fail
        go_meet
        exact ⟨rfl, w4.heap.size, w4.heap.size + 1, H1.out _ _ (.inl ⟨rfl, rfl⟩)⟩
      · go_wp2_with fail
        go_meet
        exact ⟨rfl, w4.heap.size + 1, w4.heap.size, H1.out _ _ (.inr ⟨rfl, rfl⟩)⟩
    case rest =>
      obtain ⟨rfl, C4, C6, n1, n2, n3, hd, hwr, hex⟩ := hcut
      have k1' := ex4_blk hex k1 (by omega) (by omega) (by omega) (by omega)
      have k2' := ex4_blk hex k2 (by omega) (by omega) (by omega) (by omega)
      have lC4 := hd.cols.lt
      have lC6 := hd.paths.lt
      have hbx := hbw.trans (hex.to_below (g := g) (B := B) (C4 := C4) (C6 := C6) (N := w.heap.size) hbw.size (by omega) (by omega) (by omega) (by omega))
      have HPP := Lib.hid (hP.out ⟨rt, [], [], [], [], [], []⟩ ⟨none, 0, 0, none, 0, 0, none, 0, 0, some ⟨C4, 0, none⟩, L.queries, L.queries, none, 0, 0, some ⟨C6, 0, none⟩, L.queries, L.queries⟩ B C4 0 C6 0 wc hd.pr rfl rfl hd.pr.lt rfl rfl ⟨Nat.le_refl _, by simp [maxLen]; omega⟩ ⟨Nat.le_refl _, by simp [maxLen]; omega⟩)
      have c1 := k1'.cell
      clear hex k1 k2 hbw hwr3 kB
      go_wp2_with fail
      refine HPP.out.mono ?_
      rintro e W0 ⟨v, m, rfl, hown, hb0⟩
      replace k2' := k2'.below hb0 k2'.lt
      replace hwr := hwr.below hb0 (Nat.le_refl _)
      replace hbx := below_chain hbx hb0
      have hsz0 := hb0.size
      have hd0 : Dst W0 B C4 C6 rt L.queries (fun _ => .slice none 0 0) := hd.keep (hb0.block _ hd.pr.lt) (hb0.block _ lC4) (hb0.block _ lC6)
      clear c1 k1' hP HPP hd hb0
      have hm : m = 4 + 2 * L.queries := by have := hown.1; rw [pcs_len, parts_length] at this; omega
      subst hm
      obtain ⟨r, cr, rfl, hr1, hr2⟩ := own_nonnil hown (by omega)
      have hrow : ∀ i u, (pcs (partsOf L j B C4 0 C6 0))[i]? = some u → W0.cell? ⟨r, i, none⟩ = some u := fun i u hu => by
        obtain ⟨ad, e, hc⟩ := (Rd.of_own hown).2 (by omega)
        injection e with e
        subst e
        have := hc i u hu
        simpa [add_none] using this
      have HPT := Lib.hid (fun k (hk : k < 4 + 2 * L.queries) => by
        have hl : k < (partsOf L j B C4 0 C6 0).length := by rw [parts_length]; exact hk
        have h := pcs_get (partsOf L j B C4 0 C6 0) k hl
        rw [parts_at L j B C4 C6 hk hl] at h
        exact And.intro (hrow _ _ h.1) (And.intro (hrow _ _ h.2.1) (hrow _ _ h.2.2)))
      have HLO := Lib.hid (show ∀ x ∈ l0, x < 256 from hwr.bytes)
      clear hrow hown
      obtain ⟨M, hM⟩ : ∃ M, M = 4 + 2 * L.queries := ⟨_, rfl⟩
      rw [← hM]
      have HM := Lib.hid hM
      have hM2 : M ≤ 200 := by omega
      clear hM
      generalize hPS : psOf L j = ps at *
      have HPS := Lib.hid hPS
      clear hPS
      go_wp2_with fail
      go_loopw [37] (fun i wr => ∃ (k : Nat) (vals : Nat → Value), k ≤ M ∧ i = .int .i64 (k : Int) ∧ WR wr g bd (stAt ps l0 f0 k).1 (stAt ps l0 f0 k).2 ∧ Dst wr B C4 C6 rt L.queries vals ∧ Ex4 g B C4 C6 W0 wr ∧ Hid ((∀ i, k ≤ i → vals i = .slice none 0 0) ∧ ∀ i < k, Fin4 W0.heap.size wr (vals i) (lsAt ps l0 f0 i))) (fun i _ => M - (intOf i).toNat)
      case atStart => exact ⟨0, _, Nat.zero_le _, rfl, hwr, hd0, Ex4.refl _, fun _ _ => rfl, fun i h => absurd h (by omega)⟩
      case round =>
        clear hwr hd0
        obtain ⟨k, vals, hk, rfl, hwr, hd, hex, HV⟩ := hrel
        by_cases hlt : k < M
        · obtain ⟨u0, u1, u2⟩ := HPT.out k (by have := HM.out; omega)
          have c0 := ex4_cell hex u0 (by show r ≠ g; omega) (by show r ≠ B; omega) (by show r ≠ C4; omega) (by show r ≠ C6; omega)
          have c1 := ex4_cell hex u1 (by show r ≠ g; omega) (by show r ≠ B; omega) (by show r ≠ C4; omega) (by show r ≠ C6; omega)
          have c2 := ex4_cell hex u2 (by show r ≠ g; omega) (by show r ≠ B; omega) (by show r ≠ C4; omega) (by show r ≠ C6; omega)
          obtain ⟨pb, po, hptr, hpb⟩ := ptr_form B C4 C6 L.queries k
          rw [hptr] at c0
          obtain ⟨hbd1, hbd2, hbd3⟩ := (show 0 < (ps k).2 ∧ (ps k).2 ≤ 18446744069414584321 ∧ (ps k).1 ≤ 400003 from HBD.out k)
          obtain ⟨size, hsize⟩ : ∃ size, size = (ps k).1 := ⟨_, rfl⟩
          obtain ⟨lim, hlim⟩ : ∃ lim, lim = (ps k).2 := ⟨_, rfl⟩
          obtain ⟨lk, hlk⟩ : ∃ lk, lk = (stAt ps l0 f0 k).1 := ⟨_, rfl⟩
          obtain ⟨fk, hfk⟩ : ∃ fk, fk = (stAt ps l0 f0 k).2 := ⟨_, rfl⟩
          rw [← hsize] at hbd3
          rw [← hlim] at hbd1 hbd2
          rw [← hsize] at c1
          rw [← hlim] at c2
          rw [← hlk, ← hfk] at hwr
          obtain ⟨lm, hlm⟩ : ∃ lm, lm = lim - 1 := ⟨_, rfl⟩
          have e1 : (lim : Int) - 1 = (lm : Int) := by omega
          have e2 : IntKind.u64.wrap ((lim : Int) - 1) = (lm : Int) := by rw [e1]; exact wr_nat _ (by omega)
          have e3 : IntKind.u64.wrap (lm : Int) = (lm : Int) := wr_nat _ (by omega)
          have HS1 := Lib.hid (show stAt ps l0 f0 (k + 1) = (rdMany lm size lk fk).2 by rw [stAt, ← hsize, ← hlim, ← hlk, ← hfk, ← hlm])
          have HL1 := Lib.hid (show lsAt ps l0 f0 k = (rdMany lm size lk fk).1 by rw [lsAt, ← hsize, ← hlim, ← hlk, ← hfk, ← hlm])
          have HNIL := Lib.hid (HV.out.1 k (Nat.le_refl _))
          have HPTR := Lib.hid hptr
          clear hsize hlim hlk hfk hlm hptr u0 u1 u2
          have hlkb := Lib.hid (show ∀ x ∈ lk, x < 256 from hwr.bytes)
          have g1 : (0 : Int) ≤ (k : Int) := by omega
          have g2 : (k : Int) < (M : Int) := by omega
          have lr : r < wr.heap.size := World.block_lt_of_cell? _ _ c0
          have hal := (Below.refl wr.heap.size wr).alloc (Nat.le_refl _) (.cells #[.pointer (some ⟨pb, po, none⟩), .int .i64 (size : Int), .int .u64 (lim : Int)] 69)
          have kx := Blk.new wr 69 #[.pointer (some ⟨pb, po, none⟩), .int .i64 (size : Int), .int .u64 (lim : Int)]
          have hwk := hwr.below hal (Nat.le_refl _)
          have hdk : Dst (wr.alloc (.cells #[.pointer (some ⟨pb, po, none⟩), .int .i64 (size : Int), .int .u64 (lim : Int)] 69)) B C4 C6 rt L.queries vals := hd.keep (hal.block _ hd.pr.lt) (hal.block _ hd.cols.lt) (hal.block _ hd.paths.lt)
          have hexk := hex.trans (Ex4.below hal (Nat.le_refl _))
          have hg0 : g < W0.heap.size := by have := n1; omega
          have hszw := hex.size
          go_upto_block 2 with fail
          generalize wr.alloc _ = wk at kx hwk hdk hexk hal ⊢
          generalize hgx : wr.heap.size = gx at kx hal lr hszw ⊢
          have lx := kx.lt
          clear c0 c1 c2 hwr hd hex
          have HGX := Lib.hid hgx
          clear hgx
          have cx := kx.cell
          obtain ⟨N, hN⟩ : ∃ N, N = wk.heap.size := ⟨_, rfl⟩
          rw [← hN] at lx
          have HN := Lib.hid hN
          have hkM := Lib.hid (show k < 4 + 2 * L.queries by have := HM.out; omega)
          have hNs : W0.heap.size ≤ N := by omega
          have hpb2 : B ≤ pb ∧ pb < W0.heap.size := by rcases hpb with h | h | h <;> omega
          have hbdl := hbd
          clear hN
          go_wp2_with fail
          go_loopw [43] (fun i w2 => ∃ (t : Nat) (v : Value), t ≤ size ∧ i = .int .i64 (t : Int) ∧ WR w2 g bd (rdMany lm t lk fk).2.1 (rdMany lm t lk fk).2.2 ∧ Dst w2 B C4 C6 rt L.queries (upd vals k v) ∧ Ex4 g B C4 C6 wk w2 ∧ w2.ownsRow N 22 1 v t (U64 (rdMany lm t lk fk).1)) (fun i _ => size - (intOf i).toNat)
          case atStart => exact ⟨0, .slice none 0 0, Nat.zero_le _, rfl, hwk, (by have h := upd_self vals k; rw [HNIL.out] at h; rw [h]; exact hdk), Ex4.refl _, ⟨rfl, .inl ⟨rfl, rfl⟩⟩⟩
          case round =>
            clear hwk hdk cx
            obtain ⟨t, v, ht, rfl, hw2, hd2, hex2, hown⟩ := hrel
            by_cases hlt2 : t < size
            · obtain ⟨hcp, hfp⟩ := hd2.at_ (i := k) hkM.out
              rw [HPTR.out, upd_at] at hcp
              have kx2 := ex4_blk hex2 kx (by omega) (by omega) (by omega) (by omega)
              have cx := kx2.cell
              have lN : N ≤ wr.heap.size := by have := hex2.size; have := HN.out; omega
              have hrest := Lib.hid (show ∀ x ∈ (rdMany lm t lk fk).2.1, x < 256 from hw2.bytes)
              obtain ⟨⟨xs, l1, f1⟩, hxs⟩ : ∃ z, z = rdMany lm t lk fk := ⟨_, rfl⟩
              rw [← hxs] at hw2 hown
              obtain ⟨⟨y, l2, f2⟩, hy⟩ : ∃ z, z = rdUint lm l1 f1 := ⟨_, rfl⟩
              have HU1 := fun w h => rUint_any g bd lm l1 f1 w h
              simp only [← hy] at HU1
              replace HU1 := Lib.hid HU1
              have HST := Lib.hid (show rdMany lm (t + 1) lk fk = (xs ++ [y], l2, f2) by rw [rdMany, ← hxs]; simp only; rw [← hy])
              simp only at hw2 hown
              clear hxs hy hrest hfp kx2
              have ng : gx ≠ g := by omega
              have npg : pb ≠ g := by omega
              have npN : pb < N := by omega
              have hgN : g < N := by omega
              have g3 : (t : Int) < (size : Int) := by omega
              go_wp2_with fail
              refine wpV_begin (FromX g N) [10, 11, 12, 14] [14] [0, 1, 2, 3, 4, 5, 6, 7, 8, 9, 10, 11, 12, 13, 14] (by kernel_rfl) (by kernel_rfl) ?_
              refine wpV_startK (fromX_moves g N) ?_
              intro Wc HWc hacc
              replace hown := own_hid HWc hown
              replace hw2 := wr_hid HWc hw2
              replace hd2 := dst_hid HWc hd2
              replace hex2 := ex4_hid HWc hex2
              have lN' : N ≤ Wc.heap.size := by have := hex2.size; have := HN.out; omega
              clear HWc
              repeat (first | (refine wpV_skip (fromX_moves g N) rfl rfl rfl (fun _ _ _ h => h) ?_ ; simp only [Act.put, List.setIfInBounds_toArray, List.set_cons_zero, List.set_cons_succ]) | (refine wpV_light (v := ?_) (fromX_moves g N) rfl rfl rfl (fun _ _ _ h => h) ?_ ?_ ; rotate_left ; (· (intro w' hR ; (first | have hcells := fromX_cellsD ((fromX_moves g N).trans _ _ _ hacc (hR rfl)) | skip) ; clear hR ; go_simp ; try with_reducible rfl)) ; simp only [Act.put, List.setIfInBounds_toArray, List.set_cons_zero, List.set_cons_succ]))
              refine wpV_call (fromX_moves g N) rfl rfl rfl (fun _ => by go_simp <;> rfl) ((HU1.out _ hw2).mono ?_)
              rintro e w5 ⟨rfl, hw5, hg5⟩
              refine ⟨_, rfl, fun _ => fromX_grown hg5 lN', ?_⟩
              replace hacc := (fromX_moves g N).trans _ _ _ hacc (fromX_grown hg5 lN')
              simp only [Act.put, List.setIfInBounds_toArray, List.set_cons_zero, List.set_cons_succ]
              replace hown := own_grownby hown hg5 hgN
              replace hd2 : Dst w5 B C4 C6 rt L.queries (upd vals k v) := hd2.keep (hg5.block _ hd2.pr.lt (fun e => by have := Option.some.inj e; omega)) (hg5.block _ hd2.cols.lt (fun e => by have := Option.some.inj e; omega)) (hg5.block _ hd2.paths.lt (fun e => by have := Option.some.inj e; omega))
              replace hex2 := hex2.trans (Ex4.grown hg5)
              have lN5 : N ≤ w5.heap.size := by have := hg5.size; omega
              clear hg5 cx hcp lN' lN
              refine wpV_heavy (fromX_moves g N) rfl rfl rfl ?_
              go_simp
              refine ⟨fun _ => fromX_below ((Below.refl _ _).alloc (Nat.le_refl _) _) lN5, ?_⟩
              have hal5 := (Below.refl w5.heap.size w5).alloc (Nat.le_refl _) (.cells #[.int .u64 (y : Int)] 22)
              have hrd := rd_one w5 (.int .u64 (y : Int)) 22
              replace hown := own_below hown hal5 (Nat.le_refl _)
              replace hd2 : Dst (w5.alloc (.cells #[.int .u64 (y : Int)] 22)) B C4 C6 rt L.queries (upd vals k v) := hd2.keep (hal5.block _ hd2.pr.lt) (hal5.block _ hd2.cols.lt) (hal5.block _ hd2.paths.lt)
              replace hex2 := hex2.trans (Ex4.below hal5 (Nat.le_refl _))
              replace hw5 := hw5.below hal5 (Nat.le_refl _)
              have lN6 := Nat.le_trans lN5 hal5.size
              try simp only [Act.put, List.setIfInBounds_toArray, List.set_cons_zero, List.set_cons_succ]
              generalize w5.alloc _ = w6 at hrd hown hd2 hex2 hw5 lN6 ⊢
              generalize w5.heap.size = g5 at hrd ⊢
              clear hal5 lN5 hacc
              have hacc := (fromX_moves g N).refl w6
              refine wpV_heavy (fromX_moves g N) rfl rfl rfl ?_
              refine wp_append_rd _ _ rfl el_u64 rfl hown rfl hrd (one_U64 [y]) (by omega) lN6 ?_
              intro v' wn hown' hgrow hblk
              have hvb : ∀ q, v.ownBlock = some q → N ≤ q := fun q e => (hown.lt q e).1
              refine ⟨fun _ => fromX_row hgrow lN6 hvb, ?_⟩
              have hdn : Dst wn B C4 C6 rt L.queries (upd vals k v) := hd2.keep (hgrow.block _ hd2.pr.lt (fun e => by have := hvb _ e.symm; omega)) (hgrow.block _ hd2.cols.lt (fun e => by have := hvb _ e.symm; omega)) (hgrow.block _ hd2.paths.lt (fun e => by have := hvb _ e.symm; omega))
              have hwn := hw5.grown hgrow (fun q e => by have := hvb q e; omega)
              have hexn : Ex4 g B C4 C6 wk wn := ⟨hgrow.os.trans hex2.os, hgrow.tape.trans hex2.tape, hgrow.output.trans hex2.output, Nat.le_trans hex2.size hgrow.size, fun b h1 h2 h3 h4 h5 => (hgrow.block b (by have := hex2.size; omega) (fun e => by have := hvb b e.symm; have := HN.out; omega)).trans (hex2.block b h1 h2 h3 h4 h5)⟩
              obtain ⟨Av, cv, hv', -⟩ := own_form hown'
              subst hv'
              obtain ⟨hcn, hfn⟩ := hdn.at_ (i := k) hkM.out
              rw [HPTR.out, upd_at] at hcn
              rw [HPTR.out] at hfn
              clear hown hgrow hblk hd2 hw5 hex2 hrd hvb hacc
              have hacc := (fromX_moves g N).refl wn
              try simp only [Act.put, List.setIfInBounds_toArray, List.set_cons_zero, List.set_cons_succ]
              repeat (first | (refine wpV_skip (fromX_moves g N) rfl rfl rfl (fun _ _ _ h => h) ?_ ; simp only [Act.put, List.setIfInBounds_toArray, List.set_cons_zero, List.set_cons_succ]) | (refine wpV_light (v := ?_) (fromX_moves g N) rfl rfl rfl (fun _ _ _ h => h) ?_ ?_ ; rotate_left ; (· (intro w' hR ; (first | have hcells := fromX_cellsD ((fromX_moves g N).trans _ _ _ hacc (hR rfl)) | skip) ; clear hR ; go_simp ; try with_reducible rfl)) ; simp only [Act.put, List.setIfInBounds_toArray, List.set_cons_zero, List.set_cons_succ]))
              refine wpV_heavy (fromX_moves g N) rfl rfl rfl ?_
              go_simp
              refine ⟨fun h => Bool.noConfusion h, ?_⟩
              have hsg : wn.grownBy (wn.setCell ⟨pb, po, none⟩ (.slice Av (t + 1) cv)) (some pb) := grown_setCell' (p := ⟨pb, po, none⟩) (grown_refl' wn _) (.inl rfl) _
              have hdz := hdn.set_ (by omega) (by omega) n3 (i := k) hkM.out (.slice Av (t + 1) cv)
              rw [HPTR.out, upd_upd] at hdz
              replace hwn := hwn.grown hsg (fun q e => by have := Option.some.inj e; omega)
              replace hexn := hexn.trans (Ex4.set_ wn (o := po) hpb (.slice Av (t + 1) cv))
              replace hown' := own_grownby hown' hsg npN
              clear hcn hfn hacc hdn hsg
              generalize wn.setCell _ _ = wz at hdz hwn hexn hown' ⊢
              have hacc := (fromX_moves g N).refl wz
              repeat (first | (refine wpV_skip (fromX_moves g N) rfl rfl rfl (fun _ _ _ h => h) ?_ ; simp only [Act.put, List.setIfInBounds_toArray, List.set_cons_zero, List.set_cons_succ]) | (refine wpV_light (v := ?_) (fromX_moves g N) rfl rfl rfl (fun _ _ _ h => h) ?_ ?_ ; rotate_left ; (· (intro w' hR ; (first | have hcells := fromX_cellsD ((fromX_moves g N).trans _ _ _ hacc (hR rfl)) | skip) ; clear hR ; go_simp ; try with_reducible rfl)) ; simp only [Act.put, List.setIfInBounds_toArray, List.set_cons_zero, List.set_cons_succ]))
              refine wpV_done ?_
              go_wp2
              go_roundw
              case rel => exact ⟨t + 1, .slice Av (t + 1) cv, by omega, by go_num, by rw [HST.out]; exact hwn, hdz, hexn, by rw [HST.out]; exact own_app (a := xs) (b := [y]) hown' rfl⟩
              case measure => simp [intOf]; omega
            · obtain rfl : t = size := by omega
              have HWS := Lib.hid (show ∀ x ∈ (rdMany lm t lk fk).1, x < 18446744073709551616 from (rdMany_lt lm t lk fk hlkb.out).1)
              have hexz := hexk.trans hex2
              have HV2 := Lib.hid (show (∀ i, k + 1 ≤ i → upd vals k v i = .slice none 0 0) ∧ ∀ i < k + 1, Fin4 W0.heap.size wr (upd vals k v i) (lsAt ps l0 f0 i) from ⟨fun i hi => by rw [upd_ne vals k v (by omega)]; exact HV.out.1 i (by omega), fun i hi => by
                rcases Nat.lt_or_ge i k with h5 | h5
                · rw [upd_ne vals k v (by omega)]
                  exact fin_ex4 (fin_ex4 (HV.out.2 i h5) (Ex4.below (g := g) (B := B) (C4 := C4) (C6 := C6) hal (by have := HGX.out; omega)) hg0 (by omega) (by omega) (by omega)) hex2 hg0 (by omega) (by omega) (by omega)
                · have e : i = k := by omega
                  subst e
                  rw [upd_at, HL1.out]
                  exact fin_of_own hown HWS.out hNs⟩)
              have kx2 := ex4_blk hex2 kx (by omega) (by omega) (by omega) (by omega)
              have cx := kx2.cell
              clear hown
              go_wp2
              go_roundw
              case rel => exact ⟨k + 1, upd vals k v, by omega, by go_num, by rw [HS1.out]; exact hw2, hd2, hexz, HV2.out⟩
              case measure => simp [intOf]; omega
        · obtain rfl : k = M := by omega
          have HDN := Lib.hid (done_any g bd _ _ wr hwr)
          have k2z := ex4_blk hex k2' (by omega) (by omega) (by omega) (by omega)
          have hbz := hbx.trans (hex.to_below (N := w.heap.size) hbx.size (by omega) (by omega) (by omega) (by omega))
          have hsw := hex.size
          have HRT := Lib.hid (show rt < 18446744073709551616 by have := rdUint_lt (bigP - 1) b false HBB.out; rw [← HRU.out] at this; exact this)
          have HST := Lib.hid (show rdRest L j b = stAt ps l0 f0 k by unfold rdRest; rw [← HRU.out, HPS.out, HM.out])
          have HRP := Lib.hid (show rdProof L j b = { root := rt, code := lsAt ps l0 f0 0, linear := lsAt ps l0 f0 1, quad := lsAt ps l0 f0 2, cols := (List.range L.queries).map fun i => lsAt ps l0 f0 (3 + i), salts := lsAt ps l0 f0 (3 + L.queries), paths := (List.range L.queries).map fun i => lsAt ps l0 f0 (4 + L.queries + i) } by unfold rdProof; rw [← HRU.out, HPS.out])
          obtain ⟨lz, hlz⟩ : ∃ lz, lz = (stAt ps l0 f0 k).1 := ⟨_, rfl⟩
          obtain ⟨fz, hfz⟩ : ∃ fz, fz = (stAt ps l0 f0 k).2 := ⟨_, rfl⟩
          rw [← hlz, ← hfz] at HDN
          have HSZ := Lib.hid (show rdRest L j b = (lz, fz) by rw [HST.out, hlz, hfz])
          clear hlz hfz hwr
          obtain ⟨A0, m0, c0, e0, r0⟩ := HV.out.2 0 (by have := HM.out; omega)
          obtain ⟨A1, m1, c1, e1, r1⟩ := HV.out.2 1 (by have := HM.out; omega)
          obtain ⟨A2, m2, c2, e2, r2⟩ := HV.out.2 2 (by have := HM.out; omega)
          obtain ⟨A3, m3, c3, e3, r3⟩ := HV.out.2 (3 + L.queries) (by have := HM.out; omega)
          have kp := hd.pr
          rw [e0, e1, e2, e3] at kp
          have HF0 := Lib.hid (HV.out.2 0 (by have := HM.out; omega))
          have HF1 := Lib.hid (HV.out.2 1 (by have := HM.out; omega))
          have HF2 := Lib.hid (HV.out.2 2 (by have := HM.out; omega))
          have HF3 := Lib.hid (HV.out.2 (3 + L.queries) (by have := HM.out; omega))
          rw [e0] at HF0
          rw [e1] at HF1
          rw [e2] at HF2
          rw [e3] at HF3
          clear e0 e1 e2 e3 r0 r1 r2 r3
          go_wp2_with fail
          refine HDN.out.mono ?_
          rintro e w9 ⟨rfl, kk, rfl⟩
          have kpz := kp.drewN kk
          have k2y := k2z.drewN kk
          have kcz := hd.cols.drewN kk
          have kqz := hd.paths.drewN kk
          have hby := below_drewN' hbz kk
          have hag : ∀ b : Nat, (wr.drewN kk).heap[b]? = wr.heap[b]? := fun _ => rfl
          have hsy : (wr.drewN kk).heap.size = wr.heap.size := rfl
          have HAG := Lib.hid (And.intro hag hsy)
          clear hag hsy kp k2z hd hbz
          generalize wr.drewN kk = wz at kpz k2y kcz kqz hby HAG ⊢
          have cp := kpz.cell
          have cr2 := k2y.cell
          have fr2 := k2y.frozen
          have lp := kpz.lt
          cases hbo : (!fz && lz.isEmpty)
          · have HDD := Lib.hid (show D = (noPr, 2) by
              rw [HDz.out, if_neg]
              rintro ⟨-, h⟩
              rw [HSZ.out] at h
              injection h with h1 h2
              subst h1 h2
              simp at hbo)
            clear hbo
            go_wp2_with fail
            have hg7 := set7_grown (w := wz) (g := w.heap.size + 1) (.int .u64 0) (.slice none 0 0) (.slice none 0 0) (.slice none 0 0) (.slice none 0 0) (.slice none 0 0) (.slice none 0 0)
            have kz := set7_blk k2y (.int .u64 0) (.slice none 0 0) (.slice none 0 0) (.slice none 0 0) (.slice none 0 0) (.slice none 0 0) (.slice none 0 0)
            clear cr2 fr2 k2y cp
            generalize ((((((World.setCell wz _ _).setCell _ _).setCell _ _).setCell _ _).setCell _ _).setCell _ _).setCell _ _ = Wf at hg7 kz ⊢
            have cz := kz.cell
            refine bodyPost_ret (v := .tuple #[.agg #[.int .u64 0, .slice none 0 0, .slice none 0 0, .slice none 0 0, .slice none 0 0, .slice none 0 0, .slice none 0 0], .int .i64 2]) (by simp [results, Try.results12, go_sem, cz]) rfl ?_
            rw [HDD.out]
            exact ⟨noPS, rfl, noPr_in _, hby.trans (below_of_grown hg7 w.heap.size (by omega) (fun g e => by have := Option.some.inj e; omega))⟩
          · have HDD := Lib.hid (show D = (rdProof L j b, 0) by
              have h1 : fz = false ∧ lz = [] := by simpa using hbo
              rw [HDz.out, if_pos ⟨HZ.out, by rw [HSZ.out, h1.1, h1.2]⟩])
            clear hbo
            go_wp2_with fail
            have hg7 := set7_grown (w := wz) (g := w.heap.size + 1) (.int .u64 (rt : Int)) (.slice A0 m0 c0) (.slice A1 m1 c1) (.slice A2 m2 c2) (.slice (some ⟨C4, 0, none⟩) L.queries L.queries) (.slice A3 m3 c3) (.slice (some ⟨C6, 0, none⟩) L.queries L.queries)
            have kz := set7_blk k2y (.int .u64 (rt : Int)) (.slice A0 m0 c0) (.slice A1 m1 c1) (.slice A2 m2 c2) (.slice (some ⟨C4, 0, none⟩) L.queries L.queries) (.slice A3 m3 c3) (.slice (some ⟨C6, 0, none⟩) L.queries L.queries)
            clear cr2 fr2 k2y cp
            generalize ((((((World.setCell wz _ _).setCell _ _).setCell _ _).setCell _ _).setCell _ _).setCell _ _).setCell _ _ = Wf at hg7 kz ⊢
            have cz := kz.cell
            refine bodyPost_ret (v := .tuple #[.agg #[.int .u64 (rt : Int), .slice A0 m0 c0, .slice A1 m1 c1, .slice A2 m2 c2, .slice (some ⟨C4, 0, none⟩) L.queries L.queries, .slice A3 m3 c3, .slice (some ⟨C6, 0, none⟩) L.queries L.queries], .int .i64 0]) (by simp [results, Try.results12, go_sem, cz]) rfl ?_
            rw [HDD.out, HRP.out]
            have hsz9 := hg7.size
            have keep : ∀ (v : Value) (l : List Nat), Fin4 W0.heap.size wr v l → Fin4 W0.heap.size Wf v l := fun v l h => fin_keep h (by rw [← HAG.out.2]; exact hsz9) fun b h1 h2 => (hg7.block b (by rw [HAG.out.2]; exact h2) (fun e => by have := Option.some.inj e; omega)).trans (HAG.out.1 b)
            refine ⟨⟨A0, m0, c0, A1, m1, c1, A2, m2, c2, some ⟨C4, 0, none⟩, L.queries, L.queries, A3, m3, c3, some ⟨C6, 0, none⟩, L.queries, L.queries⟩, rfl, ?_, hby.trans (below_of_grown hg7 w.heap.size (by omega) (fun g e => by have := Option.some.inj e; omega))⟩
            have hqm : L.queries ≤ maxLen := by simp [maxLen]; omega
            exact ⟨HRT.out, fin_rwd (keep _ _ HF0.out), fin_rwd (keep _ _ HF1.out), fin_rwd (keep _ _ HF2.out),
              rsl_of_fin (kcz.grown hg7 (fun e => by have := Option.some.inj e; omega)) (fun i (hi : i < L.queries) => keep _ _ (HV.out.2 (3 + i) (by have := HM.out; omega))) hqm,
              fin_rwd (keep _ _ HF3.out),
              rsl_of_fin (kqz.grown hg7 (fun e => by have := Option.some.inj e; omega)) (fun i (hi : i < L.queries) => keep _ _ (HV.out.2 (4 + L.queries + i) (by have := HM.out; omega))) hqm⟩
end Go.Proofs.Ytkaecidnkkcbaaa

