/-
  ref27.Bytes; prover.Encode.
-/
import Derived.Test.YtkaecidnkkcbaaaLawF
namespace Go.Proofs.Ytkaecidnkkcbaaa
open Go.RowKit

theorem take_bytes (l : List Nat) (k : Nat) (h : k < l.length) : bytesOf (l.take k) ++ digs (l.getD k 0) 8 = bytesOf (l.take (k + 1)) := by
  rw [List.take_succ_eq_append_getElem h, bytesOf_append, List.getD_eq_getElem?_getD, List.getElem?_eq_getElem h]
  simp [bytesOf]
theorem getD_lt {l : List Nat} {B : Nat} (h : ∀ x ∈ l, x < B) {k : Nat} (hk : k < l.length) : l.getD k 0 < B := by
  rw [List.getD_eq_getElem?_getD, List.getElem?_eq_getElem hk]
  exact h _ (List.getElem_mem _)

set_option maxRecDepth 100000 in
set_option maxHeartbeats 1000000 in
theorem rBytes27_any (P : ProofR) (S : PS) (w : World) (h : PrIn w P S) (hlen : (numsOf P).length ≤ 1000000) :
    Calls Try.prog 18 #[.agg (prCs P S)] w (Gives w 5 1 (8 * (numsOf P).length) (U8 (bytesOf (numsOf P)))) := by
  have hb0 : Below w.heap.size w (w.alloc (.cells (prCs P S) 35)) := (Below.refl _ _).alloc (Nat.le_refl _) _
  have HN := Lib.hid (numbers_any P S _ (prIn_below h hb0) hlen)
  have HLT := Lib.hid (nums_lt h)
  clear h
  generalize numsOf P = ns at *
  unfold prCs at *
  go_enter Try.func18, Try.ntmps18
  go_wp2_with fail
  refine HN.out.mono ?_
  rintro e w1 ⟨v, n, rfl, hown, hb⟩
  have hn : n = ns.length := by have := hown.1; rw [len_U64] at this; omega
  subst hn
  obtain ⟨A, c, rfl, h1, h2, hrd, -⟩ := own_form hown
  have gm := max_int h1 h2
  replace hb0 := below_chain hb0 hb
  clear hb hown h1 h2
  go_wp2_with fail
  go_loopw [3, 5] (fun s i wr => ∃ k : Nat, k ≤ ns.length ∧ i = .int .i64 (k : Int) ∧ wr.ownsRow w1.heap.size 5 1 s (8 * k) (U8 (bytesOf (ns.take k))) ∧ Below w1.heap.size w1 wr) (fun _ i _ => ns.length - (intOf i).toNat)
  case atStart => exact ⟨0, Nat.zero_le _, rfl, ⟨rfl, .inl ⟨rfl, rfl⟩⟩, Below.refl _ _⟩
  case round =>
    obtain ⟨k, hk, rfl, hown, hbr⟩ := hrel
    by_cases hlt : k < ns.length
    · obtain ⟨b, q, rfl, hbl, hc⟩ := word_get (hrd.below hbr) hlt
      have hy := getD_lt HLT.out hlt
      have HT := Lib.hid (take_bytes ns k hlt)
      generalize ns.getD k 0 = y at *
      have HD := Lib.hid (fun w => rDigits_any y 8 w hy (by omega))
      have g1 : (0 : Int) ≤ (k : Int) := by omega
      have g2 : (k : Int) < (ns.length : Int) := by omega
      have hs := hbr.size
      clear hy
      go_wp2_with fail
      refine (HD.out _).mono ?_
      rintro e w2 ⟨v2, rfl, hv2, hb2⟩
      obtain ⟨A2, c2, rfl, h1, h2, hr2, -⟩ := own_form hv2
      replace hown := own_below hown hb2 (Nat.le_refl _)
      replace hbr := below_chain hbr hb2
      clear hv2 hc hb2
      go_wp2_with (at_builtin; refine wpl_append rfl _ _ rfl el_u8 rfl hown rfl hr2 (one_U8 _) (by omega) (by have := hbr.size; omega) ?_)
      intro v' wn hown' hgrow hblk
      have hB := own_grow hown hgrow hbr.size
      replace hbr := hbr.trans hB
      replace hown' : wn.ownsRow w1.heap.size 5 1 v' (8 * k + 8) (U8 (bytesOf (ns.take (k + 1)))) := by rw [← HT.out, U8_append]; exact hown'
      clear hown hgrow hblk hB hr2 h1 h2
      go_wp2
      go_roundw
      case rel => exact ⟨k + 1, by omega, by go_num, hown', hbr⟩
      case measure => simp [intOf]; omega
    · obtain rfl : k = ns.length := by omega
      rw [List.take_length] at hown
      go_wp2
      go_ret
      exact ⟨_, rfl, own_base hown hb0.size, hb0.trans (hbr.mono hb0.size)⟩

def EncPost (w : World) (ns : List Nat) (e : Ending) (w' : World) : Prop :=
  ∃ A c, e = .returned (.tuple #[.slice A (8 * ns.length) c, .int .i64 0]) ∧ Rd w' 1 A (8 * ns.length) (U8 (bytesOf ns)) ∧ 8 * ns.length ≤ c ∧ c ≤ maxLen ∧ Below w.heap.size w w'

set_option maxRecDepth 100000 in
set_option maxHeartbeats 1000000 in
theorem pEncode_no (L : LayR) (j : Nat) (P : ProofR) (S : PS) (w : World) (hL : LayOk L) (hn : L.n = 2 ^ j) (hj : j ≤ 10) (h : PrIn w P S) (hv : prOk L j P = false) :
    Calls Try.prog 17 #[.agg (layCs L), .agg (prCs P S)] w fun e w' => e = .returned (.tuple #[.slice none 0 0, .int .i64 1]) ∧ Below w.heap.size w w' := by
  have hb0 : Below w.heap.size w ((w.alloc (.cells (layCs L) 44)).alloc (.cells (prCs P S) 35)) := ((Below.refl _ w).alloc (Nat.le_refl _) _).alloc (by simp) _
  have HV := Lib.hid (pValid_any L j P S _ hL hn hj (prIn_below h hb0))
  rw [hv] at HV
  clear hv h hL hn hj
  unfold layCs prCs at *
  go_enter Try.func17, Try.ntmps17
  go_wp2_with fail
  refine HV.out.mono ?_
  rintro e w1 ⟨rfl, hb⟩
  go_wp2
  go_ret2
  exact ⟨rfl, below_chain hb0 hb⟩

theorem szOf_le (L : LayR) (j : Nat) (hL : LayOk L) (hj : j ≤ 10) (hT : L.a + 3 * L.b ≤ 40) : szOf L j ≤ 48000 := by
  have h1 := hL.k
  have h2 := hL.b2
  have h3 := hL.q2
  have hm : L.queries * (L.a + L.b + L.b + L.b + 3 + 1 + j) ≤ 64 * 54 := Nat.mul_le_mul h3 (by omega)
  unfold szOf
  omega

set_option maxRecDepth 100000 in
set_option maxHeartbeats 2000000 in
theorem pEncode_yes (L : LayR) (j : Nat) (P : ProofR) (S : PS) (w : World) (hL : LayOk L) (hn : L.n = 2 ^ j) (hj : j ≤ 10) (hT : L.a + 3 * L.b ≤ 40) (h : PrIn w P S) (hv : prOk L j P = true) :
    Calls Try.prog 17 #[.agg (layCs L), .agg (prCs P S)] w (EncPost w (numsOf P)) := by
  have hb0 : Below w.heap.size w ((w.alloc (.cells (layCs L) 44)).alloc (.cells (prCs P S) 35)) := ((Below.refl _ w).alloc (Nat.le_refl _) _).alloc (by simp) _
  have HV := Lib.hid (pValid_any L j P S _ hL hn hj (prIn_below h hb0))
  rw [hv] at HV
  have hl := lens_of hv
  obtain ⟨e4, a4, m4, r4⟩ := lists_open h.cols
  obtain ⟨e6, a6, m6, r6⟩ := lists_open h.paths
  have z4 : S.n4 = L.queries := by rw [e4]; exact hl.cols
  have z6 : S.n6 = L.queries := by rw [e6]; exact hl.paths
  have hq := hL.q1
  obtain ⟨b4, q4, hA4⟩ := r4.base (by omega) (by omega)
  obtain ⟨b6, q6, hA6⟩ := r6.base (by omega) (by omega)
  have hN : (numsOf P).length ≤ 6000 := by have := nums_len hl; have := szOf_le L j hL hj hT; omega
  have HN := Lib.hid hN
  have HPT := Lib.hid (fun (w' : World) (kg : Blk w' (w.heap.size + 1) 35 (prCs P S)) => parts_any L j P S (w.heap.size + 1) b4 q4 b6 q6 w' hL hn hj kg z4 z6 kg.lt hA4 hA6 ⟨a4, m4⟩ ⟨a6, m6⟩)
  have HPI := Lib.hid (fun (w' : World) (kg : Blk w' (w.heap.size + 1) 35 (prCs P S)) (hin : PrIn w' P S) => partsIn_of (L := L) (j := j) kg hin (by rw [← e4]; exact z4) (by rw [← e6]; exact z6) hA4 hA6)
  have HIN := Lib.hid (fun w' (hb : Below w.heap.size w w') => prIn_below h hb)
  have HC := Lib.hid (nums_contents P)
  have HLT := Lib.hid (nums_lt h)
  have hpp : 0 < (partsOf L j (w.heap.size + 1) b4 q4 b6 q6).length := by simp [partsOf, parts3]
  have hpb : (partsOf L j (w.heap.size + 1) b4 q4 b6 q6).length ≤ 200 := by have := hL.q2; simp [partsOf, parts3, partsC]; omega
  clear hN hv hl e4 a4 m4 r4 e6 a6 m6 r6 z4 z6 hA4 hA6 h hq hL hn hj hT
  generalize partsOf L j (w.heap.size + 1) b4 q4 b6 q6 = ps at *
  generalize contents P = ls at *
  generalize numsOf P = ns at *
  unfold layCs prCs at *
  go_enter Try.func17, Try.ntmps17
  go_wp2_with fail
  refine HV.out.mono ?_
  rintro e w1 ⟨rfl, hb⟩
  obtain ⟨k1, k2, hbw⟩ := two_boxes hb
  have HPS := Lib.hid (HPI.out w1 k2 (HIN.out w1 hbw))
  have c2 := k2.cell
  have hw1 := hbw.size
  have hwl := k2.lt
  clear hb HV HPI
  go_upto_region 4 with fail
  have hal := (Below.refl w1.heap.size w1).alloc (Nat.le_refl _) (.cells #[.int .u64 (P.root : Int)] 22)
  have hown := own_one w1 w1.heap.size (.int .u64 (P.root : Int)) (Nat.le_refl _)
  have hs2 : (w1.alloc (.cells #[.int .u64 (P.root : Int)] 22)).heap.size = w1.heap.size + 1 := by simp
  replace k1 := k1.below hal k1.lt
  replace k2 := k2.below hal k2.lt
  have hbl := below_chain hbw hal
  clear c2
  generalize w1.alloc _ = w2 at hal hown hs2 k1 k2 hbl ⊢
  have c1 := k1.cell
  have HP2 := Lib.hid (HPT.out w2 k2)
  clear HPT
  go_wp2_with fail
  refine HP2.out.mono ?_
  rintro e w3 ⟨v, n, rfl, hownp, hb3⟩
  have hnn : n = ps.length := by have := hownp.1; rw [pcs_len] at this; omega
  obtain ⟨r, cr, rfl, hr1, hr2⟩ := own_nonnil hownp (by omega)
  have hrow : ∀ i u, (pcs ps)[i]? = some u → w3.cell? ⟨r, i, none⟩ = some u := fun i u hu => by
    obtain ⟨ad, e, hc⟩ := (Rd.of_own hownp).2 (by omega)
    injection e with e
    subst e
    have := hc i u hu
    simpa [add_none] using this
  have HROW := Lib.hid hrow
  replace hown : w3.ownsRow w1.heap.size 22 1 _ 1 (U64 [P.root]) := own_below hown hb3 (Nat.le_refl _)
  have hb13 : Below w1.heap.size w1 w3 := hal.trans (hb3.mono (by omega))
  have hs3 := hb3.size
  replace hbl := below_chain hbl hb3
  clear hrow hownp c1 k1 k2 hal hb3 HP2 HIN
  subst hnn
  have gm : (ps.length : Int) ≤ 200 := by omega
  generalize P.root = rt at *
  go_wp2_with fail
  go_loopw [6, 20] (fun v i wr => ∃ k m : Nat, k ≤ ps.length ∧ i = .int .i64 (k : Int) ∧ wr.ownsRow w1.heap.size 22 1 v m (U64 (rt :: (ls.take k).flatten)) ∧ Below w1.heap.size w1 wr ∧ w3.grownBy wr (some w1.heap.size) ∧ (∀ q, v.ownBlock = some q → some w1.heap.size = some q ∨ w3.heap.size ≤ q)) (fun _ i _ => ps.length - (intOf i).toNat)
  case atStart => exact ⟨0, 1, Nat.zero_le _, rfl, hown, hb13, grown_refl' _ _, fun q e => by injection e with e; subst e; exact .inl rfl⟩
  case round =>
    clear hown hb13
    obtain ⟨k, m, hk, rfl, hown, hbr, hgr, hvb⟩ := hrel
    by_cases hlt : k < ps.length
    · have hlt2 : k < ls.length := by rw [← HPS.out.1]; exact hlt
      obtain ⟨b, o, A, nn, cc, eptr, hc, hrw⟩ := partAt_below (HPS.out.2 k hlt hlt2) hbr
      obtain ⟨u0, u1, u2⟩ := pcs_get ps k hlt
      have c0 := hgr.cell (HROW.out _ _ u0) (by show some r ≠ some w1.heap.size; intro e; have := Option.some.inj e; omega)
      have c1 := hgr.cell (HROW.out _ _ u1) (by show some r ≠ some w1.heap.size; intro e; have := Option.some.inj e; omega)
      have c2 := hgr.cell (HROW.out _ _ u2) (by show some r ≠ some w1.heap.size; intro e; have := Option.some.inj e; omega)
      rw [eptr] at c0
      have HF := Lib.hid (flat_take ls k hlt2)
      have hle := flat_le ls (k + 1)
      rw [HF.out, List.length_append] at hle
      have hm : m + nn ≤ 6000 := by
        have h1 := hown.1
        have h2 := (word_at hrw).1
        have h3 := HN.out
        rw [HC.out] at h3
        rw [len_U64] at h1
        simp only [List.length_cons] at h1 h3
        omega
      have HL2 := Lib.hid hlt2
      clear u0 u1 u2 eptr hle
      generalize ps[k].size = size at *
      generalize ps[k].lim = lim at *
      have lb : b < wr.heap.size := World.block_lt_of_cell? _ _ hc
      have lr : r < wr.heap.size := World.block_lt_of_cell? _ _ c0
      have g1 : (0 : Int) ≤ (k : Int) := by omega
      have g2 : (k : Int) < (ps.length : Int) := by omega
      have hal := (Below.refl wr.heap.size wr).alloc (Nat.le_refl _) (.cells #[.pointer (some ⟨b, o, none⟩), .int .i64 (size : Int), .int .u64 (lim : Int)] 69)
      have hrw2 := kept_RWd _ _ _ _ hal hrw
      have hs5 := hbr.size
      go_wp2_with (at_builtin; refine wpl_append rfl _ _ rfl el_u64 rfl (hown.alloc _) rfl (word_at hrw2).2.2.2.2 (one_U64 _) (by omega) (by simp; omega) ?_)
      intro v' wn hown' hgrow hblk
      have hB := own_grow (hown.alloc _) hgrow (by simp; omega)
      have hbn := (hbr.trans (hal.mono (by omega))).trans hB
      have hst := own_row_step (grown_below hgr hal hgr.size) hvb hgrow (by
        rcases hblk with e | e
        · exact .inl e
        · exact .inr ⟨_, e, by simp⟩)
      replace hown' : wn.ownsRow w1.heap.size 22 1 v' (m + nn) (U64 (rt :: (ls.take (k + 1)).flatten)) := own_app (a := rt :: (ls.take k).flatten) (b := ls[k]) hown' (by rw [HF.out]; rfl)
      clear hown hgrow hblk hB hrw hrw2 hal c0 c1 c2 hc hgr hvb hbr lb lr
      go_wp2
      go_roundw
      case rel => exact ⟨k + 1, m + nn, by omega, by go_num, hown', hbn, hst.1, hst.2⟩
      case measure => simp [intOf]; omega
    · have ek : k = ls.length := by rw [← HPS.out.1]; omega
      have HCC := Lib.hid HC.out
      rw [ek, List.take_length, ← HC.out] at hown
      have hm : m = ns.length := by have := hown.1; rw [len_U64] at this; omega
      subst hm
      obtain ⟨A, c, rfl, h1, h2, hrd, -⟩ := own_form hown
      have hpos : 0 < ns.length := by rw [HC.out]; simp
      have hN2 := HN.out
      have HLs := Lib.hid (wList_any none A 0 0 ns.length c [] ns wr (Rd.nil _ _ _) (fun u hu => by cases hu) hrd HLT.out (by omega))
      have hbz : Below w.heap.size w wr := hbw.trans (hbr.mono hw1)
      clear ek hown hrd hgr hvb
      go_wp2_with fail
      refine HLs.out.mono ?_
      rintro e w5 ⟨v5, rfl, hv5, hb5⟩
      obtain ⟨n5, hn5⟩ : ∃ n5, n5 = 0 + 4 + 8 * ns.length := ⟨_, rfl⟩
      rw [← hn5] at hv5
      obtain ⟨A5, c5, rfl, h5, h6, hr5, -⟩ := own_form hv5
      have HI := Lib.hid (wInt_any none 0 0 0 [] w5 (Rd.nil _ _ _) (fun u hu => by cases hu) (by omega) (by omega) (by omega))
      have e8 : n5 - 4 = 8 * ns.length := by omega
      have v1 : (4 : Int) < (n5 : Int) := by omega
      have v2 : (4 : Int) < (c5 : Int) := by omega
      have v3 : (n5 : Int) ≤ (c5 : Int) := by omega
      have HE8 := Lib.hid (And.intro h5 (And.intro h6 (And.intro hn5 hpos)))
      replace hbz := below_chain hbz hb5
      clear hn5 hv5 h5 h6 hb5 hpos hN2
      go_wp2_with fail
      refine HI.out.mono ?_
      rintro e w6 ⟨v6, rfl, hv6, hb6⟩
      obtain ⟨A6, c6, rfl, -⟩ := own_form hv6
      have hrz := hr5.below hb6
      replace hbz := below_chain hbz hb6
      clear hv6 hr5 hb6
      go_wp2
      go_ret2
      obtain ⟨h5, h6, hn5, hpos⟩ := HE8.out
      have hct := hrz.cut (k := 4) (by omega) h5
      rw [if_neg (by omega)] at hct
      have ed : ([] ++ (U8 (digs ns.length 4) ++ U8 (ns.flatMap fun x => digs x 8))).drop (4 * 1) = U8 (bytesOf ns) := by
        rw [List.nil_append, List.drop_append_of_le_length (by simp [len_U8, len_digs]), List.drop_of_length_le (by simp [len_U8, len_digs]), List.nil_append]
        rfl
      rw [ed, e8] at hct
      exact ⟨Option.map (fun x => x.add 4) A5, c5 - 4, rfl, hct, by omega, by omega, hbz⟩
end Go.Proofs.Ytkaecidnkkcbaaa

