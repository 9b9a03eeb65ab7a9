/-
  ref27.Decode.
-/
import Derived.Test.YtkaecidnkkcbaaaPrL
import Derived.Test.YtkaecidnkkcbaaaLawE
namespace Go.Proofs.Ytkaecidnkkcbaaa
open Go.RowKit

theorem bytes_cut {w : World} {A : Option Addr} {n c : Nat} {b : List Nat} (h : Rd w 1 A n (U8 b)) (hc : n ≤ c) (l k : Nat) (hlk : l + k ≤ n) :
    ∃ A', sliced A l (l + k) c 1 = .slice A' k (c - l) ∧ Rd w 1 A' k (U8 ((b.drop l).take k)) := by
  refine ⟨if c = l then A else A.map (·.add (l * 1)), by simp [sliced], ?_⟩
  have hk := (h.cut (k := l) (by omega) hc).take (k := k) (by omega)
  have e : U8 ((b.drop l).take k) = ((U8 b).drop (l * 1)).take (k * 1) := by simp [U8]
  rw [e]
  exact hk
theorem bytes_cut' {w : World} {A : Option Addr} {n c : Nat} {b : List Nat} (h : Rd w 1 A n (U8 b)) (hc : n ≤ c) (l k : Nat) (hlk : l + k ≤ n) (hl : l < c) : Rd w 1 (Option.map (fun x => x.add l) A) k (U8 ((b.drop l).take k)) := by
  have hk := (h.cut (k := l) (by omega) hc).take (k := k) (by omega)
  rw [if_neg (by omega)] at hk
  have e : U8 ((b.drop l).take k) = ((U8 b).drop (l * 1)).take (k * 1) := by simp [U8]
  rw [e]
  simpa using hk
theorem rwd_of_own {w : World} {base : Nat} {e : TypeId} {A : Option Addr} {c n : Nat} {l : List Nat} (h : w.ownsRow base e 1 (.slice A n c) n (U64 l)) (hl : ∀ x ∈ l, x < 18446744073709551616) : RWd w [.slice A n c] l := by
  obtain ⟨A', c', he, h1, h2, h3, -⟩ := own_form h
  simp at he
  obtain ⟨rfl, rfl⟩ := he
  exact ⟨A, n, c, rfl, h1, h2, h3, hl⟩
theorem wordsOf_lt (b : List Nat) (hb : ∀ x ∈ b, x < 256) (n : Nat) : ∀ x ∈ wordsOf n b, x < 18446744073709551616 := by
  intro x hx
  obtain ⟨i, hi, rfl⟩ := List.getElem_of_mem hx
  rw [wordsOf_len] at hi
  have := wordsOf_get n b i hi
  rw [List.getElem?_eq_getElem (by rw [wordsOf_len]; exact hi)] at this
  injection this with this
  rw [this]
  have := valOf_take_lt (L := b) (p := 8 * i) hb 8
  simpa using this
def noPr : ProofR := ⟨0, [], [], [], [], [], []⟩
def noPS : PS := ⟨none, 0, 0, none, 0, 0, none, 0, 0, none, 0, 0, none, 0, 0, none, 0, 0⟩
theorem rwd_nil (w : World) : RWd w [.slice none 0 0] [] := ⟨_, _, _, rfl, Nat.le_refl _, by simp [maxLen], Rd.nil _ _ _, fun x hx => by cases hx⟩
theorem rsl_nil (w : World) : RSl 1 RWd w [.slice none 0 0] ([] : List (List Nat)) := ⟨_, _, _, rfl, rfl, Nat.le_refl _, by simp [maxLen], fun i hi => absurd hi (by simp)⟩
theorem noPr_in (w : World) : PrIn w noPr noPS := ⟨by decide, rwd_nil w, rwd_nil w, rwd_nil w, rsl_nil w, rwd_nil w, rsl_nil w⟩

/-- What decoding gives: the proof, and whether there is one. -/
def decOf (L : LayR) (j : Nat) (b : List Nat) : ProofR × Bool :=
  if b.length = szOf L j ∧ prOk L j (ofNums L j (wordsOf (szOf L j / 8) b)) = true then (ofNums L j (wordsOf (szOf L j / 8) b), true) else (noPr, false)
def DecPost (w : World) (D : ProofR × Bool) (e : Ending) (w' : World) : Prop := ∃ S, e = .returned (.tuple #[.agg (prCs D.1 S), .bool D.2]) ∧ PrIn w' D.1 S ∧ Below w.heap.size w w'

set_option maxRecDepth 100000 in
set_option maxHeartbeats 1000000 in
theorem rDecode_any (L : LayR) (j : Nat) (A : Option Addr) (n c : Nat) (b : List Nat) (w : World) (hL : LayOk L) (hn : L.n = 2 ^ j) (hj : j ≤ 10) (hr : Rd w 1 A n (U8 b)) (hnc : n ≤ c) (hcm : c ≤ maxLen) (hn4 : n ≤ 1000000) (hb : ∀ x ∈ b, x < 256) :
    Calls Try.prog 13 #[.agg (layCs L), .slice A n c] w (DecPost w (decOf L j b)) := by
  have HS := Lib.hid (fun w => size27_any L j w hL hn hj)
  have hlen := hr.len1
  rw [len_U8] at hlen
  obtain ⟨D, hD⟩ : ∃ D, D = decOf L j b := ⟨_, rfl⟩
  rw [← hD]
  unfold decOf at hD
  rw [hlen] at hD
  have gm := max_int hnc hcm
  by_cases z : n = szOf L j
  rotate_left
  · have d1 : ((n : Int) != (szOf L j : Nat)) = true := by rw [bne_iff_ne]; omega
    rw [if_neg (fun h => z h.1)] at hD
    have HDD := Lib.hid hD
    clear hD z hlen hr hb hL hn hj hnc hcm hn4
    generalize szOf L j = sz at *
    unfold layCs at HS ⊢
    go_enter Try.func13, Try.ntmps13
    go_wp2_with fail
    refine (HS.out _).mono ?_
    rintro e w1 ⟨rfl, hb⟩
    obtain ⟨k1, k2, hbw⟩ := two_boxes hb
    have l2 := k2.lt
    have c2 := k2.cell
    have f2 := k2.frozen
    clear hb k1
    go_wp2_with fail
    have hg7 := set7_grown (w := w1) (g := w.heap.size + 1) (.int .u64 0) (.slice none 0 0) (.slice none 0 0) (.slice none 0 0) (.slice none 0 0) (.slice none 0 0) (.slice none 0 0)
    have kz := set7_blk k2 (.int .u64 0) (.slice none 0 0) (.slice none 0 0) (.slice none 0 0) (.slice none 0 0) (.slice none 0 0) (.slice none 0 0)
    clear c2 f2 k2
    generalize ((((((World.setCell w1 _ _).setCell _ _).setCell _ _).setCell _ _).setCell _ _).setCell _ _).setCell _ _ = Wf at hg7 kz ⊢
    have cz := kz.cell
    refine bodyPost_ret (v := .tuple #[.agg #[.int .u64 0, .slice none 0 0, .slice none 0 0, .slice none 0 0, .slice none 0 0, .slice none 0 0, .slice none 0 0], .bool false]) (by simp [results, Try.results13, go_sem, cz]) rfl ?_
    rw [HDD.out]
    exact ⟨noPS, rfl, noPr_in _, hbw.trans (below_of_grown hg7 w.heap.size (by omega) (fun g e => by have := Option.some.inj e; omega))⟩
  · have hs := sum_all L j
    obtain ⟨N, hN⟩ : ∃ N, N = 1 + sumTo (psOf L j) (4 + 2 * L.queries) := ⟨_, rfl⟩
    have hN8 : n = 8 * N := by omega
    have hdiv : szOf L j / 8 = N := by omega
    rw [hdiv] at hD
    have hxl : (wordsOf N b).length = 1 + L.k + (L.k + L.block - 1) + (2 * L.k - 1) + L.queries * (L.a + L.b + L.b + L.b + 3) + L.queries + L.queries * j := by
      rw [wordsOf_len, hN, show 4 + 2 * L.queries = 4 + L.queries + L.queries by omega, sum_paths L j _ (Nat.le_refl _)]
      omega
    have HOf := Lib.hid (fun A c w C hC h => of_any L j A N c (wordsOf N b) w C hC hL hn hj h hxl)
    have HV := Lib.hid (fun S w h => rValid27_any L j (ofNums L j (wordsOf N b)) S w hL hn hj h)
    have d1 : ((n : Int) != (szOf L j : Nat)) = false := by rw [bne_eq_false_iff_eq]; omega
    have HB := Lib.hid hb
    have HR := Lib.hid hr
    have HZ := Lib.hid z
    have HN8 := Lib.hid hN8
    have HNC := Lib.hid hnc
    have HD := Lib.hid hD
    have HN4 := Lib.hid hn4
    have n1 : (n : Int) ≤ 1000000 := by omega
    have HWL := Lib.hid (wordsOf_lt b hb N)
    clear hD hb hs hN hN8 hdiv hxl hlen hL hn hj hcm hn4 z hnc
    generalize szOf L j = sz at *
    unfold layCs at HS HOf HV ⊢
    go_enter Try.func13, Try.ntmps13
    go_wp2_with fail
    refine (HS.out _).mono ?_
    rintro e w1 ⟨rfl, hb⟩
    obtain ⟨k1, k2, hbw⟩ := two_boxes hb
    have l1 := k1.lt
    have l2 := k2.lt
    clear hb
    go_wp2_with fail
    go_loopw [6, 7] (fun v i wr => ∃ k i0 : Nat, k ≤ N ∧ Hid (i0 = 8 * k) ∧ i = .int .i64 (i0 : Int) ∧ wr.ownsRow w1.heap.size 22 1 v k (U64 (wordsOf k b)) ∧ Below w1.heap.size w1 wr) (fun _ i _ => n - (intOf i).toNat)
    case atStart => exact ⟨0, 0, Nat.zero_le _, rfl, rfl, ⟨rfl, .inl ⟨rfl, rfl⟩⟩, Below.refl _ _⟩
    case round =>
      obtain ⟨k, i0, hk, HI, rfl, hown, hBw⟩ := hrel
      by_cases hlt : k < N
      · have hi0 := HI.out
        have hn8 := HN8.out
        have hrd := bytes_cut' ((HR.out.below hbw).below hBw) HNC.out i0 8 (by omega) (by have := HNC.out; omega)
        have HV1 := Lib.hid (value_any _ 8 (c - i0) _ wr hrd (fun x hx => HB.out x (List.mem_of_mem_drop (List.mem_of_mem_take hx))) (Nat.le_refl _))
        have hvl := valOf_take_lt (L := b) (p := i0) HB.out 8
        have HW := Lib.hid (show wordsOf k b ++ [valOf ((b.drop i0).take 8)] = wordsOf (k + 1) b by rw [wordsOf_snoc, hi0])
        obtain ⟨i1, hi1⟩ : ∃ i1, i1 = i0 + 8 := ⟨_, rfl⟩
        have hs : i1 - i0 = 8 := by omega
        have e1 : (i0 : Int) + 8 = (i1 : Int) := by omega
        have e2 : IntKind.i64.wrap ((i0 : Int) + 8) = (i1 : Int) := by rw [wr_i64 _ (by omega) (by omega)]; omega
        have e3 : IntKind.i64.wrap (i1 : Int) = (i1 : Int) := wr_i64 _ (by omega) (by omega)
        have v1 : (i0 : Int) ≤ (i1 : Int) := by omega
        have v2 : (i1 : Int) ≤ (c : Int) := by have := HNC.out; omega
        have v3 : (i0 : Int) < (n : Int) := by omega
        have hkN : k < 1000000 := by have := HN4.out; omega
        have hi1n : i1 ≤ n := by omega
        have HI1 := Lib.hid (show i1 = 8 * (k + 1) by omega)
        clear hi0 hn8 hi1 hrd hvl
        generalize valOf ((b.drop i0).take 8) = vv at *
        go_wp2_with fail
        refine HV1.out.mono ?_
        rintro e w2 ⟨rfl, rfl⟩
        have hw1 := hBw.size
        go_wp2_with (at_builtin; refine wpl_append rfl _ _ rfl el_u64 rfl (hown.alloc _) rfl (rd_one _ _ _) (one_U64 [vv]) ?_ ?_ ?_)
        · omega
        · simp; omega
        intro v' wn hown' hgrow hblk
        have hal := (Below.refl wr.heap.size wr).alloc (Nat.le_refl _) (.cells #[.int .u64 (vv : Int)] 22)
        have hB := own_grow (hown.alloc _) hgrow (by simp; omega)
        replace hBw := (hBw.trans (hal.mono hw1)).trans hB
        replace hown' : wn.ownsRow w1.heap.size 22 1 v' _ (U64 (wordsOf (k + 1) b)) := own_app (a := wordsOf k b) (b := [vv]) hown' HW.out
        clear hown hgrow hblk hB hal
        go_wp2
        go_roundw
        case rel => exact ⟨k + 1, i1, by omega, HI1.out, rfl, hown', hBw⟩
        case measure => simp [intOf]; omega
      · obtain rfl : k = N := by omega
        have hi0 := HI.out
        have hn8 := HN8.out
        obtain ⟨A6, c6, hv6, -⟩ := own_form hown
        subst hv6
        have HF := Lib.hid (HOf.out A6 c6 wr (fun u => ∀ b, w1.heap.size ≤ b → b < wr.heap.size → u.heap[b]? = wr.heap[b]?) (fun _ _ _ => rfl) (fun u hu => rwd_of_own (own_agree hown hu) HWL.out))
        obtain rfl : i0 = n := by omega
        have k1' := k1.below hBw l1
        have k2' := k2.below hBw l2
        have c1 := k1'.cell
        have hw1 := hBw.size
        have hbz := hbw.trans (hBw.mono hbw.size)
        clear hi0 hn8 hown
        go_wp2_with fail
        refine HF.out.mono ?_
        rintro e w3 ⟨S, rfl, hinF, hb3⟩
        have hin := hinF w3 (fun b h1 h2 => hb3.block b h2) (fun _ _ _ => rfl)
        have HIF := Lib.hid (fun u (h : ∀ b, w1.heap.size ≤ b → b < w3.heap.size → u.heap[b]? = w3.heap[b]?) => hinF u (fun b h1 h2 => (h b h1 (by have := hb3.size; omega)).trans (hb3.block b h2)) (fun b h1 h2 => h b (by have := hBw.size; omega) h2))
        clear hinF
        replace k1' := k1'.below hb3 k1'.lt
        replace k2' := k2'.below hb3 k2'.lt
        replace hbz := below_chain hbz hb3
        clear c1 hBw hw1 k1 k2
        have c1 := k1'.cell
        have l1' := k1'.lt
        generalize hPR : ofNums L j (wordsOf k b) = PR at *
        have hal := (Below.refl w3.heap.size w3).alloc (Nat.le_refl _) (.cells (prCs PR S) 35)
        have kb := Blk.new w3 35 (prCs PR S)
        have HV' := Lib.hid (HV.out S _ (prIn_below hin hal))
        replace k1' := k1'.below hal k1'.lt
        replace k2' := k2'.below hal k2'.lt
        have hbz' := below_chain hbz hal
        have hin4 := Lib.hid (prIn_below hin hal)
        unfold prCs at k1' k2' kb HV' hal hbz' hin4
        unfold prCs
        go_upto_region 9 with fail
        generalize w3.alloc _ = w4 at k1' k2' kb HV' hbz' hin4 hal ⊢
        generalize w3.heap.size = g8 at *
        clear c1
        have c1 := k1'.cell
        have cb := kb.cell
        have l4 := kb.lt
        go_wp2_with fail
        refine HV'.mono ?_
        rintro e w5 ⟨rfl, hb5⟩
        replace kb := kb.below hb5 kb.lt
        replace k2' := k2'.below hb5 k2'.lt
        replace hbz' := below_chain hbz' hb5
        have h35 := Lib.hid (hal.trans (hb5.mono (show g8 ≤ w4.heap.size by omega)))
        clear c1 cb k1' hbz HV HOf HS
        have cb := kb.cell
        have c2 := k2'.cell
        have f2 := k2'.frozen
        have l2' := k2'.lt
        generalize hok : prOk L j PR = ok at *
        cases ok
        · have HDD := Lib.hid (show D = (noPr, false) by rw [HD.out, if_neg (fun h => by cases h.2)])
          go_wp2_with fail
          have hg7 := set7_grown (w := w5) (g := w.heap.size + 1) (.int .u64 0) (.slice none 0 0) (.slice none 0 0) (.slice none 0 0) (.slice none 0 0) (.slice none 0 0) (.slice none 0 0)
          have kz := set7_blk k2' (.int .u64 0) (.slice none 0 0) (.slice none 0 0) (.slice none 0 0) (.slice none 0 0) (.slice none 0 0) (.slice none 0 0)
          clear c2 f2 k2' cb
          generalize ((((((World.setCell w5 _ _).setCell _ _).setCell _ _).setCell _ _).setCell _ _).setCell _ _).setCell _ _ = Wf at hg7 kz ⊢
          have cz := kz.cell
          refine bodyPost_ret (v := .tuple #[.agg #[.int .u64 0, .slice none 0 0, .slice none 0 0, .slice none 0 0, .slice none 0 0, .slice none 0 0, .slice none 0 0], .bool false]) (by simp [results, Try.results13, go_sem, cz]) rfl ?_
          rw [HDD.out]
          exact ⟨noPS, rfl, noPr_in _, hbz'.trans (below_of_grown hg7 w.heap.size (by omega) (fun g e => by have := Option.some.inj e; omega))⟩
        · have HDD := Lib.hid (show D = (PR, true) by rw [HD.out, if_pos ⟨HZ.out, rfl⟩])
          go_wp2_with fail
          have hg7 := set7_grown (w := w5) (g := w.heap.size + 1) (.int .u64 (PR.root : Int)) (.slice S.A1 S.n1 S.c1) (.slice S.A2 S.n2 S.c2) (.slice S.A3 S.n3 S.c3) (.slice S.A4 S.n4 S.c4) (.slice S.A5 S.n5 S.c5) (.slice S.A6 S.n6 S.c6)
          have kz := set7_blk k2' (.int .u64 (PR.root : Int)) (.slice S.A1 S.n1 S.c1) (.slice S.A2 S.n2 S.c2) (.slice S.A3 S.n3 S.c3) (.slice S.A4 S.n4 S.c4) (.slice S.A5 S.n5 S.c5) (.slice S.A6 S.n6 S.c6)
          clear c2 f2 k2' cb
          generalize ((((((World.setCell w5 _ _).setCell _ _).setCell _ _).setCell _ _).setCell _ _).setCell _ _).setCell _ _ = Wf at hg7 kz ⊢
          have cz := kz.cell
          refine bodyPost_ret (v := .tuple #[.agg #[.int .u64 (PR.root : Int), .slice S.A1 S.n1 S.c1, .slice S.A2 S.n2 S.c2, .slice S.A3 S.n3 S.c3, .slice S.A4 S.n4 S.c4, .slice S.A5 S.n5 S.c5, .slice S.A6 S.n6 S.c6], .bool true]) (by simp [results, Try.results13, go_sem, cz]) rfl ?_
          rw [HDD.out]
          have hl8 := kb.lt
          refine ⟨S, rfl, ?_, hbz'.trans (below_of_grown hg7 w.heap.size (by omega) (fun g e => by have := Option.some.inj e; omega))⟩
          refine HIF.out Wf fun b h1 h2 => ?_
          exact (hg7.block b (by have := h35.out.size; have := kb.lt; omega) (fun e => by have := Option.some.inj e; omega)).trans (h35.out.block b h2)
end Go.Proofs.Ytkaecidnkkcbaaa

