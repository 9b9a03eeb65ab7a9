/-
  The document's masks: ref25.Linear.
-/
import Derived.Test.YtefnagiffllhbaaGreatJM19
import Derived.Test.YtefnagiffllhbaaGreatJM10
import Derived.Test.YtefnagiffllhbaaGreatJM14
import Derived.Laws.OwnMore
import Derived.Deep.AppendLies

/- PoE -/
namespace Go.Proofs.YtefnagiffllhbaaGreat
open Go.RowKit

/-- ref04.Interpolate's coefficients. -/
def intE (p : Nat) (l : List Nat) (i : Nat) : Nat := hornP p (domR p 1 l.length i) l
def intR (p : Nat) (l : List Nat) (s i : Nat) : Nat := intE p l ((l.length - i) % l.length) * geoR p (l.length ^ (p - 2) % p) ((s % p) ^ (p - 2) % p) i % p

set_option maxRecDepth 100000 in
set_option maxHeartbeats 2000000 in
theorem rInterpolate_any (p s n : Nat) (A : Option Addr) (c : Nat) (l : List Nat) (w : World) (hp : okP p = true) (hl : RWd w [.slice A n c] l) (hn : LenOk p n) (hs : s % p ≠ 0) :
    Calls Tryz.prog 40 #[.int .u64 p, .slice A n c, .int .u64 (s : Int)] w fun e w' => ∃ v, e = .returned (.tuple #[v, .int .i64 0]) ∧ w'.ownsRow w.heap.size 22 1 v n (U64 ((List.range n).map (intR p l s))) ∧ Below w.heap.size w w' := by
  obtain ⟨hp1, hp2⟩ := okP_lt hp
  have hn4 := hn.le
  have hn1 := hn.pos
  have hnl := (lw_at hl).1
  have HD := Lib.hid (fun w => rDomain_any p s n w hp hn hs)
  have HV := Lib.hid (fun w' (hb : Below w.heap.size w w') => rEvaluate_any p 1 n A n c l w' hp (kept_RWd _ _ _ _ hb hl) hn (by rw [Nat.mod_eq_of_lt (by omega)]; decide) (by omega))
  have HM := Lib.hid (fun a b w => rMul_any p a b w hp)
  obtain ⟨x0, hx0⟩ : ∃ x0, x0 = s % p := ⟨_, rfl⟩
  obtain ⟨s0, hs0⟩ : ∃ s0, s0 = n ^ (p - 2) % p := ⟨_, rfl⟩
  obtain ⟨t, ht⟩ : ∃ t, t = x0 ^ (p - 2) % p := ⟨_, rfl⟩
  have HI1 := Lib.hid (fun w => by have := rInv_any p n w hp; rw [← hs0] at this; exact this)
  have HI2 := Lib.hid (fun w => by have := rInv_any p x0 w hp; rw [← ht] at this; exact this)
  obtain ⟨E, hE⟩ : ∃ E, E = fun i => hornP p (domR p 1 n i) l := ⟨_, rfl⟩
  rw [← hE] at HV
  obtain ⟨R, hR⟩ : ∃ R, R = fun i => E ((n - i) % n) := ⟨_, rfl⟩
  have HR0 := Lib.hid (show [E 0] = (List.range 1).map R by rw [hR]; simp)
  have HRS := Lib.hid (show ∀ i k, i + k = n → 0 < i → 0 < k → (List.range k).map R ++ [E i] = (List.range (k + 1)).map R from fun i k h h1 h2 => by
    rw [← range_snoc R k, hR]
    show _ ++ [E i] = _ ++ [E ((n - k) % n)]
    rw [show n - k = i by omega, Nat.mod_eq_of_lt (by omega)])
  obtain ⟨S, hS⟩ : ∃ S, S = geoR p s0 t := ⟨_, rfl⟩
  have HS0 := Lib.hid (show S 0 = s0 by rw [hS]; rfl)
  have HS1 := Lib.hid (show ∀ k, S (k + 1) = S k * t % p from fun k => by rw [hS]; rfl)
  obtain ⟨F, hF⟩ : ∃ F, F = fun i => R i * S i % p := ⟨_, rfl⟩
  have HF := Lib.hid (show ∀ i, F i = R i * S i % p from fun i => by rw [hF])
  have hres : intR p l s = F := by
    funext i
    rw [hF, hR, hE, hS, hs0, ht, hx0]
    simp only [intR, intE, ← hnl]
  rw [hres]
  have p1 : (0 : Int) < (p : Int) := by omega
  have p2 : ((p : Int) == 0) = false := by rw [beq_eq_false_iff_ne]; omega
  have p3 : ¬ (p = 0) := by omega
  have e1 : (s : Int) % (p : Int) = (x0 : Int) := by rw [hx0]; rfl
  have e2 : (s : Int).tmod (p : Int) = (x0 : Int) := by rw [hx0]; rfl
  have en : IntKind.u64.wrap (n : Int) = (n : Int) := wr_nat _ (by omega)
  obtain ⟨m, hm⟩ : ∃ m : Nat, m = n - 1 := ⟨_, rfl⟩
  have em : (n : Int) - 1 = (m : Int) := by omega
  have em2 : IntKind.i64.wrap (m : Int) = (m : Int) := wr_i64 _ (by omega) (by omega)
  have gn : (n : Int) ≤ 4096 := by omega
  have gn1 : (0 : Int) < (n : Int) := by omega
  have hmn : m + 1 = n := by omega
  have HMN := Lib.hid hmn
  clear hx0 hs0 ht hE hR hS hF hres hl hp hn hs hp1 hp2 hnl hm hmn
  go_enter Tryz.func40, Tryz.ntmps40
  go_wp2_with fail
  refine (HD.out _).mono ?_
  rintro e w1 ⟨v0, rfl, -, hb⟩
  go_wp2_with fail
  refine (HV.out _ hb).mono ?_
  rintro e w2 ⟨v1, rfl, hown1, hbx⟩
  replace hb := below_chain hb hbx
  clear hbx
  obtain ⟨g1, cap1, rfl, hg1, hg2⟩ := World.ownsRow.form hown1 (by omega)
  have hrd : Rd w2 1 (some ⟨g1, 0, none⟩) n (U64 ((List.range n).map E)) := by
    obtain ⟨A', c', he, -, -, h3, -⟩ := own_form hown1
    injection he with h1 h2 h3'
    subst h1
    exact h3
  have hcE : ∀ (u : World) i, Below w2.heap.size w2 u → i < n → u.cell? ⟨g1, i, none⟩ = some (.int .u64 (E i : Int)) := fun u i hu hi => by
    have h := hu.cell (p := ⟨g1, i, none⟩) hg2
    rw [h, hown1.cellAt i (by omega)]
    simp [U64, hi]
  have HC := Lib.hid hcE
  have c0 := hcE w2 0 (Below.refl _ _) (by omega)
  clear hown1 hrd hcE
  obtain ⟨y0, hy0⟩ : ∃ y0, y0 = E 0 := ⟨_, rfl⟩
  rw [← hy0] at c0 HR0
  clear hy0
  have own0 := World.ownsRow_lit (base := w2.heap.size) (e := 22) (size := 1) w2 #[.int .u64 (y0 : Int)] 1 (Nat.le_refl _) (by simp [maxLen]) rfl
  have hal := (Below.refl w2.heap.size w2).alloc (Nat.le_refl _) (.cells #[.int .u64 (y0 : Int)] 22)
  replace own0 : (w2.alloc (.cells #[.int .u64 (y0 : Int)] 22)).ownsRow w2.heap.size 22 1 (.slice (some ⟨w2.heap.size, 0, none⟩) 1 1) 1 (U64 ((List.range 1).map R)) := by
    rw [← HR0.out]; exact own0
  go_wp2_with fail
  clear c0
  go_loopw [13, 14] (fun v i wr => ∃ i' k : Nat, i = .int .i64 (i' : Int) ∧ Hid (i' + k = n) ∧ 0 < k ∧ i' < n ∧ k ≤ n ∧ wr.ownsRow w2.heap.size 22 1 v k (U64 ((List.range k).map R)) ∧ Below w2.heap.size w2 wr) (fun _ i _ => (intOf i).toNat)
  case atStart => exact ⟨m, 1, rfl, Lib.hid HMN.out, by omega, by have := HMN.out; omega, by omega, own0, hal⟩
  case round =>
    clear own0 hal
    obtain ⟨i, k, rfl, HK, hk0, hin, hkn, hown, hb2⟩ := hrel
    rcases Nat.eq_zero_or_pos i with hi0 | hi0
    · subst hi0
      have hk : k = n := by have := HK.out; omega
      subst hk
      go_wp2_with fail
      refine (HI1.out _).mono ?_
      rintro e w3 ⟨rfl, hbx⟩
      replace hb2 := below_chain hb2 hbx
      replace hown := own_below hown hbx (Nat.le_refl _)
      clear hbx
      go_wp2_with fail
      refine (HI2.out _).mono ?_
      rintro e w4 ⟨rfl, hbx⟩
      replace hb2 := below_chain hb2 hbx
      replace hown := own_below hown hbx (Nat.le_refl _)
      clear hbx
      obtain ⟨g, cap, rfl, hg3, hg4⟩ := World.ownsRow.form hown (by omega)
      replace hown := own_base hown hb.size
      replace hg3 : w.heap.size ≤ g := Nat.le_trans hb.size hg3
      replace hb := hb.trans (hb2.mono hb.size)
      clear hb2
      go_wp2_with fail
      have H0 := Lib.hid (upTo_row0 k F R)
      go_loopw [15, 17] (fun y i wr => ∃ j : Nat, j ≤ k ∧ i = .int .i64 (j : Int) ∧ y = .int .u64 (S j : Int) ∧ wr.ownsRow w.heap.size 22 1 (.slice (some ⟨g, 0, none⟩) k cap) k (U64 ((List.range k).map (upTo F R j))) ∧ Below w.heap.size w wr) (fun _ i _ => k - (intOf i).toNat)
      case atStart => exact ⟨0, Nat.zero_le _, rfl, by rw [HS0.out], by rw [H0.out]; exact hown, hb⟩
      case round =>
        clear hown hb
        obtain ⟨j, hj, rfl, rfl, hown, hb⟩ := hrel
        by_cases hlt : j < k
        · have q1 : (j : Int) < (k : Int) := by omega
          have c0 : wr.cell? ⟨g, j, none⟩ = some (.int .u64 (R j : Int)) := by rw [hown.cellAt j (by omega)]; exact upTo_at F R hlt
          have lg : g < wr.heap.size := World.block_lt_of_cell? _ _ c0
          obtain ⟨z, hz⟩ : ∃ z, z = F j := ⟨_, rfl⟩
          have HST := Lib.hid (upTo_row (n := k) (G := R) hz)
          have HF1 := Lib.hid (HF.out j)
          rw [← hz] at HF1
          have HS2 := Lib.hid (HS1.out j)
          obtain ⟨s2, hs2⟩ : ∃ s2, s2 = S (j + 1) := ⟨_, rfl⟩
          rw [← hs2] at HS2
          have HSS := Lib.hid hs2
          obtain ⟨x, hx⟩ : ∃ x, x = R j := ⟨_, rfl⟩
          obtain ⟨y, hy⟩ : ∃ y, y = S j := ⟨_, rfl⟩
          rw [← hx, ← hy] at HF1
          rw [← hy] at HS2 ⊢
          have HM1 := Lib.hid (fun w => by have := HM.out x y w; rw [← HF1.out] at this; exact this)
          have HM2 := Lib.hid (fun w => by have := HM.out y t w; rw [← HS2.out] at this; exact this)
          rw [← hx] at c0
          have HX := Lib.hid hx
          clear hx hz hy hs2 HF1 HS2
          go_wp2_with fail
          refine (HM1.out _).mono ?_
          rintro e w5 ⟨rfl, hbx⟩
          replace hb := below_chain hb hbx
          replace hown := own_below hown hbx (Nat.le_refl _)
          clear hbx
          clear c0 lg
          have c2 : w5.cell? ⟨g, j, none⟩ = some (.int .u64 (x : Int)) := by rw [hown.cellAt j (by omega), HX.out]; exact upTo_at F R hlt
          have f2 := hown.frozenAt
          obtain ⟨hown2, hg⟩ := hown.stored j (.int .u64 (z : Int))
          rw [HST.out] at hown2
          have hb2 := hb.trans (below_of_only hg hb.size hg3)
          clear hown hb
          go_wp2_with fail
          clear f2 c2 hg
          generalize w5.setCell _ _ = w6 at hown2 hb2 ⊢
          refine (HM2.out _).mono ?_
          rintro e w7 ⟨rfl, hbx⟩
          replace hb2 := below_chain hb2 hbx
          replace hown2 := own_below hown2 hbx (Nat.le_refl _)
          go_wp2_with fail
          go_roundw
          case rel => exact ⟨j + 1, by omega, by go_num, by rw [HSS.out], hown2, hb2⟩
          case measure => simp [intOf]; omega
        · obtain rfl : j = k := by omega
          have q1 : ¬ ((j : Int) < (j : Int)) := by omega
          rw [upTo_rown] at hown
          go_wp2
          go_ret2
          exact ⟨_, rfl, hown, hb⟩
    · have q1 : (0 : Int) < (i : Int) := by omega
      have q2 : (i : Int) < (n : Int) := by omega
      have c1 := HC.out wr i hb2 hin
      have HRS1 := Lib.hid (HRS.out i k HK.out hi0 hk0)
      obtain ⟨z, hz⟩ : ∃ z, z = E i := ⟨_, rfl⟩
      rw [← hz] at c1 HRS1
      clear hz
      obtain ⟨i2, hi2⟩ : ∃ i2, i2 = i - 1 := ⟨_, rfl⟩
      have ei : (i : Int) - 1 = (i2 : Int) := by omega
      have ei2 : IntKind.i64.wrap (i2 : Int) = (i2 : Int) := wr_i64 _ (by omega) (by omega)
      have HI := Lib.hid hi2
      clear hi2
      go_wp2_with (at_builtin; refine wpl_append rfl _ _ rfl el_w rfl (hown.alloc _) rfl (rd_one _ _ _) (one_U64 [z]) (by omega) (by simp; have := hb2.size; omega) ?_)
      intro v' wn hown' hgrow hblk
      have hal := (Below.refl wr.heap.size wr).alloc (Nat.le_refl _) (.cells #[.int .u64 (z : Int)] 22)
      have hB := lw_grow (hown.alloc _) hgrow (by simp; have := hb2.size; omega)
      replace hb2 := (below_on hb2 hal hb2.size).trans hB
      replace hown : wn.ownsRow w2.heap.size 22 1 v' (k + 1) (U64 ((List.range (k + 1)).map R)) := lw_app (b := [z]) hown' HRS1.out
      clear hown' hgrow hblk hal hB
      go_wp2
      go_roundw
      case rel => exact ⟨i2, k + 1, rfl, Lib.hid (by have := HK.out; have := HI.out; omega), by omega, by have := HI.out; omega, by have := HK.out; omega, hown, hb2⟩
      case measure => have := HI.out; simp [intOf]; omega
end Go.Proofs.YtefnagiffllhbaaGreat

/- PoF -/
namespace Go.Proofs.YtefnagiffllhbaaGreat
open Go.RowKit

def zeroF (p b i : Nat) : Nat := if i = 0 then p - 1 else if i = b then 1 else 0
def zeroP (p b : Nat) : List Nat := (List.range (b + 1)).map (zeroF p b)
theorem zeroF_set {p b : Nat} (hb : 0 < b) : ((fillC (b + 1) fun _ => 0).setIfInBounds 0 (.int .u64 ((p - 1 : Nat) : Int))).setIfInBounds b (.int .u64 ((1 : Nat) : Int)) = fillC (b + 1) (zeroF p b) := by
  rw [fill_set, fill_set]
  refine fill_same fun i hi => ?_
  simp only [putF, zeroF]
  by_cases h : i = b
  · subst h; simp; omega
  · rw [if_neg h]
    by_cases h0 : i = 0
    · simp [h0]
    · simp [h0, h]
theorem zeroF_lt {p b : Nat} (hp : 1 < p) (i : Nat) : zeroF p b i < p := by
  unfold zeroF
  split
  · omega
  · split <;> omega

set_option maxRecDepth 100000 in
set_option maxHeartbeats 1000000 in
theorem rZero_any (L : LayR) (w : World) (hL : LayOk L) :
    Calls Tryz.prog 44 #[.agg (layCs L)] w fun e w' => ∃ v, e = .returned v ∧ RWd w' [v] (zeroP L.p L.block) ∧ Below w.heap.size w w' := by
  obtain ⟨hp1, hp2⟩ := okP_lt hL.p
  have hb1 := hL.b1
  have hb2 := hL.b2
  obtain ⟨n, hn⟩ : ∃ n, n = L.block + 1 := ⟨_, rfl⟩
  obtain ⟨pm, hpm⟩ : ∃ pm, pm = L.p - 1 := ⟨_, rfl⟩
  have e1 : (L.block : Int) + 1 = (n : Int) := by omega
  have e2 : IntKind.i64.wrap (n : Int) = (n : Int) := wr_i64 _ (by omega) (by omega)
  have e3 : IntKind.u64.wrap ((L.p : Int) - 1) = (pm : Int) := by rw [hpm]; exact wr_sub _ 1 (by omega) hp2
  have e4 : (0 : Int) < (n : Int) := by omega
  have e5 : (L.block : Int) < (n : Int) := by omega
  have e6 : (0 : Int) ≤ (L.block : Int) := by omega
  have e7 : 0 < n := by omega
  have e8 : L.block < n := by omega
  have e9 : (n : Int) ≤ 257 := by omega
  have HST := Lib.hid (show ((fillC n fun _ => 0).setIfInBounds 0 (.int .u64 (pm : Int))).setIfInBounds L.block (.int .u64 1) = fillC n (zeroF L.p L.block) by rw [hn, hpm]; exact zeroF_set (by omega))
  have HB := Lib.hid (show ∀ g w, Blk w g 22 (fillC n (zeroF L.p L.block)) → RWd w [.slice (some ⟨g, 0, none⟩) n n] (zeroP L.p L.block) from fun g w h => by
    have := fill_rwd h (fun i _ => Nat.lt_trans (zeroF_lt (by omega) i) hp2) (by simp [maxLen]; omega)
    rw [hn] at this ⊢
    exact this)
  have mk := mk_words n (by omega)
  clear hn hpm hL hp1 hp2 hb1 hb2
  obtain ⟨c0, hc0⟩ : ∃ c0, c0 = (fillC n fun _ => 0) := ⟨_, rfl⟩
  have HC0 := Lib.hid (show ∀ i, i < n → c0[i]? = some (.int .u64 0) from fun i hi => by rw [hc0, fill_get _ hi]; rfl)
  have HCB := Lib.hid (show (c0.setIfInBounds 0 (.int .u64 (pm : Int)))[L.block]? = some (.int .u64 (if L.block = 0 then (pm : Int) else 0)) by rw [hc0, fill_set, fill_get _ e8]; simp only [putF]; split <;> rfl)
  rw [← hc0] at mk HST
  clear hc0
  unfold layCs at *
  obtain ⟨kl, kg, hb0, -⟩ := boxes2 w 34 22 #[.int .u64 (L.p : Int), .int .i64 (L.block : Int), .int .i64 (L.queries : Int), .int .i64 (L.k : Int), .int .i64 (L.n : Int), .int .i64 (L.secret : Int), .int .i64 (L.rows : Int), .int .i64 (L.a : Int), .int .i64 (L.b : Int), .int .i64 (L.b : Int), .int .i64 (L.b : Int)] c0
  go_enter Tryz.func44, Tryz.ntmps44
  go_upto_region 2 with fail
  generalize (w.alloc _).alloc _ = w1 at kl kg hb0 ⊢
  have hg : w.heap.size ≤ w.heap.size + 1 := by omega
  have hne : w.heap.size ≠ w.heap.size + 1 := by omega
  generalize w.heap.size + 1 = g at kg hg hne ⊢
  have cl := kl.cell
  have cg := kg.cell 0
  rw [HC0.out 0 e7] at cg
  have fg := kg.frozen
  go_upto_region 3 with fail
  have hgr := set_only (w := w1) g 0 (.int .u64 (pm : Int))
  replace kg := kg.set_ 0 (.int .u64 (pm : Int))
  replace kl := kl.grown hgr (fun e => hne (Option.some.inj e))
  replace hb0 := hb0.trans (below_of_only hgr hb0.size hg)
  clear cl cg fg hgr
  generalize w1.setCell _ _ = w2 at kl kg hb0 ⊢
  have cl := kl.cell
  have cg := kg.cell L.block
  rw [HCB.out] at cg
  have fg := kg.frozen
  go_upto_region 4 with fail
  have hgr := set_only (w := w2) g L.block (.int .u64 1)
  replace kg := kg.set_ L.block (.int .u64 1)
  rw [HST.out] at kg
  replace hb0 := hb0.trans (below_of_only hgr hb0.size hg)
  clear cl cg fg hgr kl
  generalize w2.setCell _ _ = w3 at kg hb0 ⊢
  go_wp2
  go_ret
  exact ⟨_, rfl, HB.out _ _ kg, hb0⟩

set_option maxRecDepth 100000 in
set_option maxHeartbeats 1000000 in
theorem rPad_any (A : Option Addr) (n c m : Nat) (l : List Nat) (w : World) (hl : RWd w [.slice A n c] l) (hn : n ≤ 100000) (hm : m ≤ 100000) :
    Calls Tryz.prog 41 #[.slice A n c, .int .i64 (m : Int)] w fun e w' => ∃ v, e = .returned v ∧ RWd w' [v] (padP l m) ∧ Below w.heap.size w w' := by
  obtain ⟨rfl, h1, h2, hlt, hrd⟩ := lw_at hl
  have hal := (Below.refl w.heap.size w).alloc (Nat.le_refl _) (.cells #[] 22)
  have HLT := Lib.hid (show ∀ k, ∀ x ∈ l ++ List.replicate k 0, x < 18446744073709551616 from fun k x hx => by
    rcases List.mem_append.1 hx with h | h
    · exact hlt x h
    · rw [(List.mem_replicate.1 h).2]; omega)
  have HS := Lib.hid (show ∀ k, l ++ List.replicate k 0 ++ [0] = l ++ List.replicate (k + 1) 0 from fun k => by rw [List.append_assoc, List.replicate_succ'])
  have HP := Lib.hid (show padP l m = l ++ List.replicate (m - l.length) 0 from rfl)
  rw [HP.out]
  obtain ⟨f, hf⟩ : ∃ f, f = fun k => l ++ List.replicate k 0 := ⟨_, rfl⟩
  have H0 := Lib.hid (show f 0 = l by rw [hf]; simp)
  have HF := Lib.hid (show ∀ k, f k ++ [0] = f (k + 1) from fun k => by rw [hf]; exact HS.out k)
  have HFL := Lib.hid (show ∀ k, ∀ x ∈ f k, x < 18446744073709551616 from fun k => by rw [hf]; exact HLT.out k)
  rw [show l ++ List.replicate (m - l.length) 0 = f (m - l.length) by rw [hf]]
  clear HS HLT HP hf hlt h1 h2 hl
  go_enter Tryz.func41, Tryz.ntmps41
  go_wp2_with (at_builtin; refine wpl_append rfl _ _ rfl el_w rfl (own_empty w 22 (Nat.le_refl _)) rfl (hrd.alloc _) (one_U64 l) (by omega) (by simp) ?_)
  intro v1 w1 hown hgrow hblk
  have hB := lw_grow (own_empty w 22 (Nat.le_refl _)) hgrow (by simp)
  replace hB := hal.trans hB
  obtain ⟨t, ht⟩ : ∃ t, t = l.length := ⟨_, rfl⟩
  have hown1 : w1.ownsRow w.heap.size 22 1 v1 t (U64 (f 0)) := by
    rw [H0.out, ht]; simpa using hown
  have HT := Lib.hid ht
  clear hgrow hblk hown hal ht hrd
  go_wp2_with fail
  go_loopw [5] (fun v wr => ∃ k s : Nat, Hid (s = t + k ∧ (k = 0 ∨ s ≤ m)) ∧ s ≤ 200000 ∧ wr.ownsRow w.heap.size 22 1 v s (U64 (f k)) ∧ Below w.heap.size w wr) (fun v _ => match v with | .slice _ n _ => m - n | _ => 0)
  case atStart => exact ⟨0, t, Lib.hid ⟨rfl, .inl rfl⟩, by have := HT.out; omega, hown1, hB⟩
  case round =>
    clear hown1 hB
    obtain ⟨k, s, HK, hs, hown, hb⟩ := hrel
    obtain ⟨A1, c1, rfl, hc1, hc2, -, -⟩ := own_form hown
    by_cases hlt : s < m
    · have g1 : (s : Int) < (m : Int) := by omega
      have HF1 := Lib.hid (HF.out k)
      go_wp2_with (at_builtin; refine wpl_append rfl _ _ rfl el_w rfl (hown.alloc _) rfl (rd_one _ _ _) (one_U64 [0]) (by omega) (by simp; have := hb.size; omega) ?_)
      intro v' wn hown' hgrow hblk
      have hal := (Below.refl wr.heap.size wr).alloc (Nat.le_refl _) (.cells #[.int .u64 (0 : Int)] 22)
      have hB := lw_grow (hown.alloc _) hgrow (by simp; have := hb.size; omega)
      replace hb := (below_on hb hal hb.size).trans hB
      replace hown : wn.ownsRow w.heap.size 22 1 v' (s + 1) (U64 (f (k + 1))) := lw_app (b := [0]) hown' HF1.out
      clear hown' hgrow hblk hal hB
      obtain ⟨A2, c2, rfl, -⟩ := own_form hown
      go_wp2
      go_roundw
      case rel => exact ⟨k + 1, s + 1, Lib.hid (by have := HK.out; omega), by omega, hown, hb⟩
      case measure => simp; omega
    · have g1 : ¬ ((s : Int) < (m : Int)) := by omega
      have HE := Lib.hid (show f k = f (m - l.length) by
        have h := HK.out
        have h2 := HT.out
        rcases h.2 with h3 | h3
        · rw [h3, show m - l.length = 0 by omega]
        · rw [show k = m - l.length by omega])
      have hlw := lw_own hown (HFL.out k)
      clear hown
      go_wp2
      go_ret
      rw [HE.out] at hlw
      exact ⟨_, rfl, hlw, hb⟩
end Go.Proofs.YtefnagiffllhbaaGreat

/- PoG -/
namespace Go.Proofs.YtefnagiffllhbaaGreat
open Go.RowKit

/-- ref25.Row. -/
def rowR (L : LayR) (msg masks : List Nat) : List Nat := padP (addP L.p ((List.range msg.length).map (intR L.p msg 1)) (mulP L.p (zeroP L.p L.block) masks)) L.k
/-- ref25.Quad. -/
def quadR (L : LayR) (q : List Nat) : List Nat := padP (mulP L.p (zeroP L.p L.block) q) (2 * L.k - 1)
theorem zeroP_len (p b : Nat) : (zeroP p b).length = b + 1 := by simp [zeroP]
theorem intR_lt {p : Nat} (hp : 0 < p) (l : List Nat) (s i : Nat) : intR p l s i < p := Nat.mod_lt _ hp

set_option maxRecDepth 100000 in
set_option maxHeartbeats 1000000 in
theorem rRow25_any (L : LayR) (A B : Option Addr) (n c m d : Nat) (msg masks : List Nat) (w : World) (hL : LayOk L) (hl : RWd w [.slice A n c] msg) (hk : RWd w [.slice B m d] masks) (hn : n = L.block) (hm : m ≤ 30000) :
    Calls Tryz.prog 15 #[.agg (layCs L), .slice A n c, .slice B m d] w fun e w' => ∃ v, e = .returned v ∧ RWd w' [v] (rowR L msg masks) ∧ Below w.heap.size w w' := by
  obtain ⟨hp1, hp2⟩ := okP_lt hL.p
  have hb2 := hL.b2
  have hk1 : L.k ≤ 400 := by have := hL.k; have := hL.q2; omega
  obtain ⟨hlen, -⟩ := layLen hL
  have hml := (lw_at hk).1
  have hnl := (lw_at hl).1
  subst hn
  have HI := Lib.hid (fun w' (hb : Below w.heap.size w w') => rInterpolate_any L.p 1 L.block A c msg w' hL.p (kept_RWd _ _ _ _ hb hl) hlen (by rw [Nat.mod_eq_of_lt (by omega)]; decide))
  have HZ := Lib.hid (fun w => rZero_any L w hL)
  have HM := Lib.hid (fun A n c w' (hb : Below w.heap.size w w') ha hn => rMulP_any L.p A B n c m d (zeroP L.p L.block) masks w' hL.p ha (kept_RWd _ _ _ _ hb hk) hn (by omega))
  have HA := Lib.hid (fun A B n c m d a b w ha hb hn hm => rAddP_any L.p A B n c m d a b w hL.p ha hb hn hm)
  have HP := Lib.hid (fun A n c l w hl hn => rPad_any A n c L.k l w hl hn (by omega))
  have HIL := Lib.hid (show ∀ x ∈ (List.range L.block).map (intR L.p msg 1), x < 18446744073709551616 from fun x hx => by
    obtain ⟨i, -, rfl⟩ := List.mem_map.1 hx
    exact Nat.lt_trans (intR_lt (by omega) _ _ _) hp2)
  have HR := Lib.hid (show rowR L msg masks = padP (addP L.p ((List.range L.block).map (intR L.p msg 1)) (mulP L.p (zeroP L.p L.block) masks)) L.k by rw [rowR, ← hnl])
  rw [HR.out]
  have h1 := Lib.hid (show (mulP L.p (zeroP L.p L.block) masks).length ≤ 40000 by have := mulP_len L.p (zeroP L.p L.block) masks; rw [zeroP_len] at this; omega)
  have h2 := Lib.hid (show (addP L.p ((List.range L.block).map (intR L.p msg 1)) (mulP L.p (zeroP L.p L.block) masks)).length ≤ 40000 by have := addP_len L.p ((List.range L.block).map (intR L.p msg 1)) (mulP L.p (zeroP L.p L.block) masks); rw [List.length_map, List.length_range] at this; have := h1.out; omega)
  have h3 := Lib.hid (zeroP_len L.p L.block)
  have h4 : L.block ≤ 256 := hb2
  generalize mulP L.p (zeroP L.p L.block) masks = M at *
  generalize (List.range L.block).map (intR L.p msg 1) = I at *
  clear HR hL hl hk hlen hml hnl hp1 hp2 hk1 hb2 hm
  unfold layCs at *
  have kl := Blk.new w 34 #[.int .u64 (L.p : Int), .int .i64 (L.block : Int), .int .i64 (L.queries : Int), .int .i64 (L.k : Int), .int .i64 (L.n : Int), .int .i64 (L.secret : Int), .int .i64 (L.rows : Int), .int .i64 (L.a : Int), .int .i64 (L.b : Int), .int .i64 (L.b : Int), .int .i64 (L.b : Int)]
  have hb0 : Below w.heap.size w (w.alloc (.cells #[.int .u64 (L.p : Int), .int .i64 (L.block : Int), .int .i64 (L.queries : Int), .int .i64 (L.k : Int), .int .i64 (L.n : Int), .int .i64 (L.secret : Int), .int .i64 (L.rows : Int), .int .i64 (L.a : Int), .int .i64 (L.b : Int), .int .i64 (L.b : Int), .int .i64 (L.b : Int)] 34)) := (Below.refl _ _).alloc (Nat.le_refl _) _
  go_enter Tryz.func15, Tryz.ntmps15
  go_wp2_with fail
  generalize w.alloc _ = w1 at kl hb0 ⊢
  refine (HI.out _ hb0).mono ?_
  rintro e w2 ⟨v1, rfl, hown, hbx⟩
  replace kl := kl.below hbx kl.lt
  replace hb0 := below_chain hb0 hbx
  clear hbx
  obtain ⟨A1, c1, rfl, -⟩ := own_form hown
  have hI := lw_own hown HIL.out
  clear hown HIL HI
  have cl := kl.cell
  have ll := kl.lt
  go_upto_region 2 with fail
  refine wpO_begin (Later) [6, 8, 9, 12] [0, 1, 2, 3, 4, 5, 7, 10, 11, 6, 8, 9, 12, 13] (by kernel_rfl) (by kernel_rfl) ?_
  refine wpO_startK (later_moves) ?_
  intro Wc HWc hacc
  have hbW : Below w2.heap.size w2 Wc := by rw [HWc.out]; exact (Below.refl _ _).drew
  replace hb0 := below_chain hb0 hbW
  replace hI := kept_RWd _ _ _ _ hbW hI
  repeat (first | (refine wpO_skip (later_moves) rfl rfl (fun _ _ _ h => h) ?_ ; simp only [Act.put, List.setIfInBounds_toArray, List.set_cons_zero, List.set_cons_succ]) | (refine wpO_light (v := ?_) (later_moves) rfl rfl (fun _ _ _ h => h) ?_ ?_ ; rotate_left ; (· (intro w' hR ; (first | have hcells := later_cellsD ((later_moves).trans _ _ _ hacc hR) | skip) ; go_simp ; try with_reducible rfl)) ; simp only [Act.put, List.setIfInBounds_toArray, List.set_cons_zero, List.set_cons_succ]))
  refine wpO_call (later_moves) rfl rfl rfl (fun _ => by go_simp <;> rfl) ((HZ.out _).mono ?_)
  rintro e w3 ⟨v3, rfl, hZ, hb3⟩
  refine ⟨_, rfl, hb3, ?_⟩
  replace hacc := (later_moves).trans _ _ _ hacc (hb3)
  simp only [Act.put, List.setIfInBounds_toArray, List.set_cons_zero, List.set_cons_succ]
  replace hb0 := below_chain hb0 hb3
  replace hI := kept_RWd _ _ _ _ hb3 hI
  obtain ⟨A3, c3, rfl⟩ := rwd_form hZ
  repeat (first | (refine wpO_skip (later_moves) rfl rfl (fun _ _ _ h => h) ?_ ; simp only [Act.put, List.setIfInBounds_toArray, List.set_cons_zero, List.set_cons_succ]) | (refine wpO_light (v := ?_) (later_moves) rfl rfl (fun _ _ _ h => h) ?_ ?_ ; rotate_left ; (· (intro w' hR ; (first | have hcells := later_cellsD ((later_moves).trans _ _ _ hacc hR) | skip) ; go_simp ; try with_reducible rfl)) ; simp only [Act.put, List.setIfInBounds_toArray, List.set_cons_zero, List.set_cons_succ]))
  refine wpO_call (later_moves) rfl rfl rfl (fun _ => by go_simp <;> rfl) ((HM.out _ _ _ _ hb0 hZ (by rw [h3.out]; omega)).mono ?_)
  rintro e w4 ⟨v4, rfl, hM, hb4⟩
  refine ⟨_, rfl, hb4, ?_⟩
  replace hacc := (later_moves).trans _ _ _ hacc (hb4)
  simp only [Act.put, List.setIfInBounds_toArray, List.set_cons_zero, List.set_cons_succ]
  replace hb0 := below_chain hb0 hb4
  replace hI := kept_RWd _ _ _ _ hb4 hI
  obtain ⟨A4, c4, rfl⟩ := rwd_form hM
  repeat (first | (refine wpO_skip (later_moves) rfl rfl (fun _ _ _ h => h) ?_ ; simp only [Act.put, List.setIfInBounds_toArray, List.set_cons_zero, List.set_cons_succ]) | (refine wpO_light (v := ?_) (later_moves) rfl rfl (fun _ _ _ h => h) ?_ ?_ ; rotate_left ; (· (intro w' hR ; (first | have hcells := later_cellsD ((later_moves).trans _ _ _ hacc hR) | skip) ; go_simp ; try with_reducible rfl)) ; simp only [Act.put, List.setIfInBounds_toArray, List.set_cons_zero, List.set_cons_succ]))
  refine wpO_call (later_moves) rfl rfl rfl (fun _ => by go_simp <;> rfl) ((HA.out _ _ _ _ _ _ _ _ _ hI hM (by omega) (by have := h1.out; omega)).mono ?_)
  rintro e w5 ⟨v5, rfl, hA, hb5⟩
  refine ⟨_, rfl, hb5, ?_⟩
  replace hacc := (later_moves).trans _ _ _ hacc (hb5)
  simp only [Act.put, List.setIfInBounds_toArray, List.set_cons_zero, List.set_cons_succ]
  replace hb0 := below_chain hb0 hb5
  obtain ⟨A5, c5, rfl⟩ := rwd_form hA
  repeat (first | (refine wpO_skip (later_moves) rfl rfl (fun _ _ _ h => h) ?_ ; simp only [Act.put, List.setIfInBounds_toArray, List.set_cons_zero, List.set_cons_succ]) | (refine wpO_light (v := ?_) (later_moves) rfl rfl (fun _ _ _ h => h) ?_ ?_ ; rotate_left ; (· (intro w' hR ; (first | have hcells := later_cellsD ((later_moves).trans _ _ _ hacc hR) | skip) ; go_simp ; try with_reducible rfl)) ; simp only [Act.put, List.setIfInBounds_toArray, List.set_cons_zero, List.set_cons_succ]))
  refine wpO_call (later_moves) rfl rfl rfl (fun _ => by go_simp <;> rfl) ((HP.out _ _ _ _ _ hA (by have := h2.out; omega)).mono ?_)
  rintro e w6 ⟨v6, rfl, hP, hb6⟩
  refine ⟨_, rfl, hb6, ?_⟩
  replace hacc := (later_moves).trans _ _ _ hacc (hb6)
  simp only [Act.put, List.setIfInBounds_toArray, List.set_cons_zero, List.set_cons_succ]
  replace hb0 := below_chain hb0 hb6
  repeat (first | (refine wpO_skip (later_moves) rfl rfl (fun _ _ _ h => h) ?_ ; simp only [Act.put, List.setIfInBounds_toArray, List.set_cons_zero, List.set_cons_succ]) | (refine wpO_light (v := ?_) (later_moves) rfl rfl (fun _ _ _ h => h) ?_ ?_ ; rotate_left ; (· (intro w' hR ; (first | have hcells := later_cellsD ((later_moves).trans _ _ _ hacc hR) | skip) ; go_simp ; try with_reducible rfl)) ; simp only [Act.put, List.setIfInBounds_toArray, List.set_cons_zero, List.set_cons_succ]))
  refine wpO_done ?_
  go_wp2
  go_ret
  exact ⟨_, rfl, hP, hb0⟩

set_option maxRecDepth 100000 in
set_option maxHeartbeats 1000000 in
theorem rQuad_any (L : LayR) (v0 v1 v2 v4 : Value) (B : Option Addr) (m d : Nat) (q : List Nat) (w : World) (hL : LayOk L) (g0 : slc v0) (g1 : slc v1) (g2 : slc v2) (g4 : slc v4) (hk : RWd w [.slice B m d] q) (hm : m ≤ 30000) :
    Calls Tryz.prog 23 #[.agg (layCs L), .agg #[v0, v1, v2, .slice B m d, v4]] w fun e w' => ∃ v, e = .returned v ∧ RWd w' [v] (quadR L q) ∧ Below w.heap.size w w' := by
  obtain ⟨hp1, hp2⟩ := okP_lt hL.p
  have hb2 := hL.b2
  have hk1 : L.k ≤ 400 := by have := hL.k; have := hL.q2; omega
  have hk2 : 2 ≤ L.k := by have := hL.k; have := hL.b1; omega
  have hml := (lw_at hk).1
  obtain ⟨A0, n0, c0, rfl⟩ := g0
  obtain ⟨A1, n1, c1, rfl⟩ := g1
  obtain ⟨A2, n2, c2, rfl⟩ := g2
  obtain ⟨A4, n4, c4, rfl⟩ := g4
  obtain ⟨t, ht⟩ : ∃ t, t = 2 * L.k - 1 := ⟨_, rfl⟩
  obtain ⟨u, hu⟩ : ∃ u, u = 2 * L.k := ⟨_, rfl⟩
  have HZ := Lib.hid (fun w => rZero_any L w hL)
  have HM := Lib.hid (fun A n c w' (hb : Below w.heap.size w w') ha hn => rMulP_any L.p A B n c m d (zeroP L.p L.block) q w' hL.p ha (kept_RWd _ _ _ _ hb hk) hn (by omega))
  have HP := Lib.hid (fun A n c l w hl hn => rPad_any A n c t l w hl hn (by omega))
  have HR := Lib.hid (show quadR L q = padP (mulP L.p (zeroP L.p L.block) q) t by rw [quadR, ht])
  rw [HR.out]
  have h1 := Lib.hid (show (mulP L.p (zeroP L.p L.block) q).length ≤ 40000 by have := mulP_len L.p (zeroP L.p L.block) q; rw [zeroP_len] at this; omega)
  have h3 := Lib.hid (zeroP_len L.p L.block)
  have h4 : L.block ≤ 256 := hb2
  have e1 : (2 : Int) * (L.k : Int) = (u : Int) := by omega
  have e2 : IntKind.i64.wrap (u : Int) = (u : Int) := wr_i64 _ (by omega) (by omega)
  have e3 : (u : Int) - 1 = (t : Int) := by omega
  have e4 : IntKind.i64.wrap (t : Int) = (t : Int) := wr_i64 _ (by omega) (by omega)
  generalize mulP L.p (zeroP L.p L.block) q = M at *
  clear HR hL hk hml hp1 hp2 hk1 hk2 hb2 hm ht hu
  unfold layCs at *
  obtain ⟨kl, kc, hb0, -⟩ := boxes2 w 34 41 #[.int .u64 (L.p : Int), .int .i64 (L.block : Int), .int .i64 (L.queries : Int), .int .i64 (L.k : Int), .int .i64 (L.n : Int), .int .i64 (L.secret : Int), .int .i64 (L.rows : Int), .int .i64 (L.a : Int), .int .i64 (L.b : Int), .int .i64 (L.b : Int), .int .i64 (L.b : Int)] #[.slice A0 n0 c0, .slice A1 n1 c1, .slice A2 n2 c2, .slice B m d, .slice A4 n4 c4]
  go_enter Tryz.func23, Tryz.ntmps23
  go_upto_region 1 with fail
  generalize (w.alloc _).alloc _ = w2 at kl kc hb0 ⊢
  have cl := kl.cell
  have ll := kl.lt
  have cc := kc.cell
  have lc := kc.lt
  refine wpO_begin (Later) [3, 6, 11] [0, 1, 2, 4, 5, 7, 8, 9, 10, 3, 6, 11, 12] (by kernel_rfl) (by kernel_rfl) ?_
  refine wpO_startK (later_moves) ?_
  intro Wc HWc hacc
  have hbW : Below w2.heap.size w2 Wc := by rw [HWc.out]; exact (Below.refl _ _).drew
  replace hb0 := below_chain hb0 hbW
  repeat (first | (refine wpO_skip (later_moves) rfl rfl (fun _ _ _ h => h) ?_ ; simp only [Act.put, List.setIfInBounds_toArray, List.set_cons_zero, List.set_cons_succ]) | (refine wpO_light (v := ?_) (later_moves) rfl rfl (fun _ _ _ h => h) ?_ ?_ ; rotate_left ; (· (intro w' hR ; (first | have hcells := later_cellsD ((later_moves).trans _ _ _ hacc hR) | skip) ; go_simp ; try with_reducible rfl)) ; simp only [Act.put, List.setIfInBounds_toArray, List.set_cons_zero, List.set_cons_succ]))
  refine wpO_call (later_moves) rfl rfl rfl (fun _ => by go_simp <;> rfl) ((HZ.out _).mono ?_)
  rintro e w3 ⟨v3, rfl, hZ, hb3⟩
  refine ⟨_, rfl, hb3, ?_⟩
  replace hacc := (later_moves).trans _ _ _ hacc (hb3)
  simp only [Act.put, List.setIfInBounds_toArray, List.set_cons_zero, List.set_cons_succ]
  replace hb0 := below_chain hb0 hb3
  obtain ⟨A3, c3, rfl⟩ := rwd_form hZ
  repeat (first | (refine wpO_skip (later_moves) rfl rfl (fun _ _ _ h => h) ?_ ; simp only [Act.put, List.setIfInBounds_toArray, List.set_cons_zero, List.set_cons_succ]) | (refine wpO_light (v := ?_) (later_moves) rfl rfl (fun _ _ _ h => h) ?_ ?_ ; rotate_left ; (· (intro w' hR ; (first | have hcells := later_cellsD ((later_moves).trans _ _ _ hacc hR) | skip) ; go_simp ; try with_reducible rfl)) ; simp only [Act.put, List.setIfInBounds_toArray, List.set_cons_zero, List.set_cons_succ]))
  refine wpO_call (later_moves) rfl rfl rfl (fun _ => by go_simp <;> rfl) ((HM.out _ _ _ _ hb0 hZ (by rw [h3.out]; omega)).mono ?_)
  rintro e w4 ⟨v4, rfl, hM, hb4⟩
  refine ⟨_, rfl, hb4, ?_⟩
  replace hacc := (later_moves).trans _ _ _ hacc (hb4)
  simp only [Act.put, List.setIfInBounds_toArray, List.set_cons_zero, List.set_cons_succ]
  replace hb0 := below_chain hb0 hb4
  obtain ⟨A5, c5, rfl⟩ := rwd_form hM
  repeat (first | (refine wpO_skip (later_moves) rfl rfl (fun _ _ _ h => h) ?_ ; simp only [Act.put, List.setIfInBounds_toArray, List.set_cons_zero, List.set_cons_succ]) | (refine wpO_light (v := ?_) (later_moves) rfl rfl (fun _ _ _ h => h) ?_ ?_ ; rotate_left ; (· (intro w' hR ; (first | have hcells := later_cellsD ((later_moves).trans _ _ _ hacc hR) | skip) ; go_simp ; try with_reducible rfl)) ; simp only [Act.put, List.setIfInBounds_toArray, List.set_cons_zero, List.set_cons_succ]))
  refine wpO_call (later_moves) rfl rfl rfl (fun _ => by go_simp <;> rfl) ((HP.out _ _ _ _ _ hM (by have := h1.out; omega)).mono ?_)
  rintro e w6 ⟨v6, rfl, hP, hb6⟩
  refine ⟨_, rfl, hb6, ?_⟩
  replace hacc := (later_moves).trans _ _ _ hacc (hb6)
  simp only [Act.put, List.setIfInBounds_toArray, List.set_cons_zero, List.set_cons_succ]
  replace hb0 := below_chain hb0 hb6
  repeat (first | (refine wpO_skip (later_moves) rfl rfl (fun _ _ _ h => h) ?_ ; simp only [Act.put, List.setIfInBounds_toArray, List.set_cons_zero, List.set_cons_succ]) | (refine wpO_light (v := ?_) (later_moves) rfl rfl (fun _ _ _ h => h) ?_ ?_ ; rotate_left ; (· (intro w' hR ; (first | have hcells := later_cellsD ((later_moves).trans _ _ _ hacc hR) | skip) ; go_simp ; try with_reducible rfl)) ; simp only [Act.put, List.setIfInBounds_toArray, List.set_cons_zero, List.set_cons_succ]))
  refine wpO_done ?_
  go_wp2
  go_ret
  exact ⟨_, rfl, hP, hb0⟩

set_option maxRecDepth 100000 in
set_option maxHeartbeats 1000000 in
theorem rCode_any (L : LayR) (v0 v1 v2 v3 v4 : Value) (w : World) (g0 : slc v0) (g1 : slc v1) (g2 : slc v2) (g3 : slc v3) (g4 : slc v4) :
    Calls Tryz.prog 21 #[.agg (layCs L), .agg #[v0, v1, v2, v3, v4]] w fun e w' => e = .returned v1 ∧ Below w.heap.size w w' := by
  obtain ⟨A0, n0, c0, rfl⟩ := g0
  obtain ⟨A1, n1, c1, rfl⟩ := g1
  obtain ⟨A2, n2, c2, rfl⟩ := g2
  obtain ⟨A3, n3, c3, rfl⟩ := g3
  obtain ⟨A4, n4, c4, rfl⟩ := g4
  unfold layCs at *
  obtain ⟨kl, kc, hb0, -⟩ := boxes2 w 34 41 #[.int .u64 (L.p : Int), .int .i64 (L.block : Int), .int .i64 (L.queries : Int), .int .i64 (L.k : Int), .int .i64 (L.n : Int), .int .i64 (L.secret : Int), .int .i64 (L.rows : Int), .int .i64 (L.a : Int), .int .i64 (L.b : Int), .int .i64 (L.b : Int), .int .i64 (L.b : Int)] #[.slice A0 n0 c0, .slice A1 n1 c1, .slice A2 n2 c2, .slice A3 n3 c3, .slice A4 n4 c4]
  go_enter Tryz.func21, Tryz.ntmps21
  go_upto_region 1 with fail
  generalize (w.alloc _).alloc _ = w2 at kl kc hb0 ⊢
  have cc := kc.cell
  have lc := kc.lt
  go_wp2
  go_ret
  exact ⟨rfl, hb0⟩

set_option maxRecDepth 100000 in
set_option maxHeartbeats 1000000 in
theorem rPoints_any (L : LayR) (w : World) (hL : LayOk L) :
    Calls Tryz.prog 16 #[.agg (layCs L)] w fun e w' => ∃ v1 v2, e = .returned (.tuple #[v1, v2]) ∧ RWd w' [v1] ((List.range L.block).map (domR L.p 1 L.block)) ∧ RWd w' [v2] ((List.range L.n).map (domR L.p (rowOf L.p).1 L.n)) ∧ Below w.heap.size w w' := by
  obtain ⟨hp1, hp2⟩ := okP_lt hL.p
  obtain ⟨hlen, -⟩ := layLen hL
  obtain ⟨hlenN, -⟩ := layLenN hL
  have hgl := gen_lt hL.p
  have H1 := Lib.hid (fun w => rDomain_any L.p 1 L.block w hL.p hlen (by rw [Nat.mod_eq_of_lt (by omega)]; decide))
  have H2 := Lib.hid (fun w => rDomain_any L.p (rowOf L.p).1 L.n w hL.p hlenN (gen_mod hL.p))
  have HG := Lib.hid (fun w => rGen_any L.p w hL.p)
  have HL1 := Lib.hid (show ∀ s n, ∀ x ∈ (List.range n).map (domR L.p s n), x < 18446744073709551616 from fun s n x hx => by
    obtain ⟨i, -, rfl⟩ := List.mem_map.1 hx
    exact Nat.lt_trans (geoR_lt (by omega) (Nat.mod_lt _ (by omega)) i) hp2)
  generalize (rowOf L.p).1 = gn at *
  clear hL hp1 hp2 hlen hlenN hgl
  unfold layCs at *
  have kl := Blk.new w 34 #[.int .u64 (L.p : Int), .int .i64 (L.block : Int), .int .i64 (L.queries : Int), .int .i64 (L.k : Int), .int .i64 (L.n : Int), .int .i64 (L.secret : Int), .int .i64 (L.rows : Int), .int .i64 (L.a : Int), .int .i64 (L.b : Int), .int .i64 (L.b : Int), .int .i64 (L.b : Int)]
  have hb0 : Below w.heap.size w (w.alloc (.cells #[.int .u64 (L.p : Int), .int .i64 (L.block : Int), .int .i64 (L.queries : Int), .int .i64 (L.k : Int), .int .i64 (L.n : Int), .int .i64 (L.secret : Int), .int .i64 (L.rows : Int), .int .i64 (L.a : Int), .int .i64 (L.b : Int), .int .i64 (L.b : Int), .int .i64 (L.b : Int)] 34)) := (Below.refl _ _).alloc (Nat.le_refl _) _
  go_enter Tryz.func16, Tryz.ntmps16
  go_wp2_with fail
  generalize w.alloc _ = w1 at kl hb0 ⊢
  refine (H1.out _).mono ?_
  rintro e w2 ⟨v1, rfl, hown, hbx⟩
  replace kl := kl.below hbx kl.lt
  replace hb0 := below_chain hb0 hbx
  clear hbx
  obtain ⟨A1, c1, rfl, -⟩ := own_form hown
  have hI := lw_own hown (HL1.out _ _)
  clear hown
  have cl := kl.cell
  have ll := kl.lt
  go_upto_region 2 with fail
  refine wpO_begin (Later) [4, 7] [0, 1, 2, 3, 5, 6, 4, 7, 8, 9, 10, 11, 12] (by kernel_rfl) (by kernel_rfl) ?_
  refine wpO_startK (later_moves) ?_
  intro Wc HWc hacc
  have hbW : Below w2.heap.size w2 Wc := by rw [HWc.out]; exact (Below.refl _ _).drew
  replace hb0 := below_chain hb0 hbW
  replace hI := kept_RWd _ _ _ _ hbW hI
  repeat (first | (refine wpO_skip (later_moves) rfl rfl (fun _ _ _ h => h) ?_ ; simp only [Act.put, List.setIfInBounds_toArray, List.set_cons_zero, List.set_cons_succ]) | (refine wpO_light (v := ?_) (later_moves) rfl rfl (fun _ _ _ h => h) ?_ ?_ ; rotate_left ; (· (intro w' hR ; (first | have hcells := later_cellsD ((later_moves).trans _ _ _ hacc hR) | skip) ; go_simp ; try with_reducible rfl)) ; simp only [Act.put, List.setIfInBounds_toArray, List.set_cons_zero, List.set_cons_succ]))
  refine wpO_call (later_moves) rfl rfl rfl (fun _ => by go_simp <;> rfl) ((HG.out _).mono ?_)
  rintro e w3 ⟨rfl, hb3⟩
  refine ⟨_, rfl, hb3, ?_⟩
  replace hacc := (later_moves).trans _ _ _ hacc (hb3)
  simp only [Act.put, List.setIfInBounds_toArray, List.set_cons_zero, List.set_cons_succ]
  replace hb0 := below_chain hb0 hb3
  replace hI := kept_RWd _ _ _ _ hb3 hI
  repeat (first | (refine wpO_skip (later_moves) rfl rfl (fun _ _ _ h => h) ?_ ; simp only [Act.put, List.setIfInBounds_toArray, List.set_cons_zero, List.set_cons_succ]) | (refine wpO_light (v := ?_) (later_moves) rfl rfl (fun _ _ _ h => h) ?_ ?_ ; rotate_left ; (· (intro w' hR ; (first | have hcells := later_cellsD ((later_moves).trans _ _ _ hacc hR) | skip) ; go_simp ; try with_reducible rfl)) ; simp only [Act.put, List.setIfInBounds_toArray, List.set_cons_zero, List.set_cons_succ]))
  refine wpO_call (later_moves) rfl rfl rfl (fun _ => by go_simp <;> rfl) ((H2.out _).mono ?_)
  rintro e w4 ⟨v4, rfl, hown, hb4⟩
  refine ⟨_, rfl, hb4, ?_⟩
  replace hacc := (later_moves).trans _ _ _ hacc (hb4)
  simp only [Act.put, List.setIfInBounds_toArray, List.set_cons_zero, List.set_cons_succ]
  replace hb0 := below_chain hb0 hb4
  replace hI := kept_RWd _ _ _ _ hb4 hI
  obtain ⟨A4, c4, rfl, -⟩ := own_form hown
  have hM := lw_own hown (HL1.out _ _)
  clear hown
  repeat (first | (refine wpO_skip (later_moves) rfl rfl (fun _ _ _ h => h) ?_ ; simp only [Act.put, List.setIfInBounds_toArray, List.set_cons_zero, List.set_cons_succ]) | (refine wpO_light (v := ?_) (later_moves) rfl rfl (fun _ _ _ h => h) ?_ ?_ ; rotate_left ; (· (intro w' hR ; (first | have hcells := later_cellsD ((later_moves).trans _ _ _ hacc hR) | skip) ; go_simp ; try with_reducible rfl)) ; simp only [Act.put, List.setIfInBounds_toArray, List.set_cons_zero, List.set_cons_succ]))
  refine wpO_done ?_
  go_wp2
  go_ret2
  exact ⟨_, _, rfl, hI, hM, hb0⟩
end Go.Proofs.YtefnagiffllhbaaGreat

/- PoH -/
namespace Go.Proofs.YtefnagiffllhbaaGreat
open Go.RowKit

set_option maxRecDepth 100000 in
set_option maxHeartbeats 2000000 in
theorem rLinear25_any (L : LayR) (v0 v1 v3 v4 : Value) (A : Option Addr) (n c : Nat) (l : List Nat) (w : World) (hL : LayOk L) (h0 : slc v0) (h1 : slc v1) (h3 : slc v3) (h4 : slc v4) (hl : RWd w [.slice A n c] l) (hn : n ≤ 60000) :
    Calls Tryz.prog 22 #[.agg (layCs L), .agg #[v0, v1, .slice A n c, v3, v4]] w fun e w' => ∃ v, e = .returned v ∧ w'.ownsRow w.heap.size 22 1 v (n + 1) (U64 (mlinP L l)) ∧ Below w.heap.size w w' := by
  have hp := hL.p
  have hb1 := hL.b1
  have hb2 := hL.b2
  have HS := Lib.hid (fun a b w => rSub_any L.p a b w hp)
  obtain ⟨rfl, hx1, hx2, hlt, hrd⟩ := lw_at hl
  obtain ⟨A0, n0, c0, rfl⟩ := h0
  obtain ⟨A1, n1, c1, rfl⟩ := h1
  obtain ⟨A3, n3, c3, rfl⟩ := h3
  obtain ⟨A4, n4, c4, rfl⟩ := h4
  clear hl hL hx1 hx2 hp
  have gb : (L.block : Int) ≤ 256 := by omega
  have gb1 : (2 : Int) ≤ (L.block : Int) := by omega
  unfold layCs at *
  obtain ⟨kl, kc, hb0, hsz⟩ := boxes2 w 34 41 #[.int .u64 (L.p : Int), .int .i64 (L.block : Int), .int .i64 (L.queries : Int), .int .i64 (L.k : Int), .int .i64 (L.n : Int), .int .i64 (L.secret : Int), .int .i64 (L.rows : Int), .int .i64 (L.a : Int), .int .i64 (L.b : Int), .int .i64 (L.b : Int), .int .i64 (L.b : Int)] #[.slice A0 n0 c0, .slice A1 n1 c1, .slice A l.length c, .slice A3 n3 c3, .slice A4 n4 c4]
  go_enter Tryz.func22, Tryz.ntmps22
  go_upto_region 1 with fail
  generalize (w.alloc _).alloc _ = w1 at kl kc hb0 hsz ⊢
  have HZ := Lib.hid hsz
  clear hsz
  have hrd1 := hrd.below hb0
  have own0 := World.ownsRow_lit (base := w1.heap.size) (e := 22) (size := 1) w1 #[.int .u64 0] 1 (Nat.le_refl _) (by simp [maxLen]) rfl
  have hal := (Below.refl w1.heap.size w1).alloc (Nat.le_refl _) (.cells #[.int .u64 0] 22)
  have cc := kc.cell
  have lc := kc.lt
  go_upto_region 2 with (at_builtin; refine wpl_append rfl _ _ rfl el_w rfl own0 rfl (hrd1.below hal) (one_U64 l) (by omega) (by simp) ?_ ; intro v' w2 hown hgrow hblk)
  have hB := lw_grow own0 hgrow (by simp)
  replace hB := hal.trans hB
  clear own0 hgrow hblk hal hrd1 cc lc
  replace kl := kl.below hB kl.lt
  replace hb0 := below_chain hb0 hB
  clear hB kc
  obtain ⟨g, cap, rfl, hg1, -⟩ := World.ownsRow.form hown (by omega)
  have hg2 : w.heap.size + 2 ≤ g := by have := HZ.out; omega
  have e0 : (1 + l.length) = l.length + 1 := Nat.add_comm _ _
  rw [e0] at hown ⊢
  replace hown : w2.ownsRow w.heap.size 22 1 (.slice (some ⟨g, 0, none⟩) (l.length + 1) cap) (l.length + 1) (U64 (0 :: l)) := own_base hown (by have := HZ.out; omega)
  obtain ⟨n, hnn⟩ : ∃ n, n = l.length + 1 := ⟨_, rfl⟩
  rw [← hnn] at hown ⊢
  have HNN := Lib.hid hnn
  clear hnn e0 hg1 HZ
  have gn : (n : Int) ≤ 60001 := by have := HNN.out; omega
  have cl := kl.cell
  go_wp2_with fail
  clear cl
  go_loopw [6] (fun y wr => ∃ k i : Nat, y = .int .i64 (i : Int) ∧ Hid (i = (k + 1) * L.block ∧ k * L.block ≤ l.length) ∧ i ≤ 61000 ∧ 1 ≤ i ∧ Blk wr w.heap.size 34 #[.int .u64 (L.p : Int), .int .i64 (L.block : Int), .int .i64 (L.queries : Int), .int .i64 (L.k : Int), .int .i64 (L.n : Int), .int .i64 (L.secret : Int), .int .i64 (L.rows : Int), .int .i64 (L.a : Int), .int .i64 (L.b : Int), .int .i64 (L.b : Int), .int .i64 (L.b : Int)] ∧ wr.ownsRow w.heap.size 22 1 (.slice (some ⟨g, 0, none⟩) n cap) n (U64 (linA L.p L.block l k :: l)) ∧ Below w.heap.size w wr) (fun y _ => 61000 - (intOf y).toNat)
  case atStart => exact ⟨0, L.block, rfl, ⟨by omega, by omega⟩, by omega, by omega, kl, hown, hb0⟩
  case round =>
    clear kl hown hb0
    obtain ⟨k, i, rfl, HK, hi1, hi2, kl, hown, hb0⟩ := hrel
    have q0 : (0 : Int) < (i : Int) := by omega
    have q9 : (i : Int) ≤ 61000 := by omega
    by_cases hlt' : i < n
    · have q1 : (i : Int) < (n : Int) := by omega
      have q2 : (0 : Int) ≤ (i : Int) := by omega
      have q3 : (0 : Int) < (n : Int) := by omega
      have q5 : 0 < n := by omega
      obtain ⟨x, hx⟩ : ∃ x, x = linA L.p L.block l k := ⟨_, rfl⟩
      obtain ⟨y, hy⟩ : ∃ y, y = l.getD (i - 1) 0 := ⟨_, rfl⟩
      obtain ⟨z, hz⟩ : ∃ z, z = (x + negP L.p y) % L.p := ⟨_, rfl⟩
      obtain ⟨t, ht⟩ : ∃ t, t = i + L.block := ⟨_, rfl⟩
      have e1 : (i : Int) + (L.block : Int) = (t : Int) := by omega
      have e2 : IntKind.i64.wrap (t : Int) = (t : Int) := wr_i64 _ (by omega) (by omega)
      have HST := Lib.hid (show (U64 (x :: l)).set 0 (.int .u64 (z : Int)) = U64 (linA L.p L.block l (k + 1) :: l) by
        rw [hz, hx, hy, HK.out.1]; rfl)
      have HT : Hid (t = (k + 1 + 1) * L.block ∧ (k + 1) * L.block ≤ l.length) := by
        have h := HK.out
        have h2 := HNN.out
        have h3 : (k + 1 + 1) * L.block = (k + 1) * L.block + L.block := Nat.succ_mul _ _
        exact ⟨by omega, by omega⟩
      have ht3 : t ≤ 61000 := by have := HNN.out; omega
      have ht4 : 1 ≤ t := by omega
      have HC := Lib.hid (fun w => by have := HS.out x y w; rw [← hz] at this; exact this)
      rw [← hx] at hown
      have c0 : wr.cell? ⟨g, 0, none⟩ = some (.int .u64 (x : Int)) := by rw [hown.cellAt 0 (by omega)]; rfl
      have ci : wr.cell? ⟨g, i, none⟩ = some (.int .u64 (y : Int)) := by
        rw [hown.cellAt i (by omega), at_U64 (by simp; have := HNN.out; omega)]
        have : (x :: l)[i]'(by simp; have := HNN.out; omega) = y := by
          rw [hy, List.getElem_cons, dif_neg (by omega), List.getD_eq_getElem?_getD, List.getElem?_eq_getElem (show i - 1 < l.length by have := HNN.out; omega)]
          rfl
        rw [this]
      clear hx hy hz ht HK
      have cf := kl.cell
      have lf := kl.lt
      have lg : g < wr.heap.size := World.block_lt_of_cell? _ _ c0
      go_upto_region 5 with fail
      refine wpGO_begin (Later) (later_moves) [12] [12] [0, 1, 2, 3, 4, 5, 6, 7, 8, 9, 10, 11, 12] (by kernel_rfl) (by kernel_rfl) ?_
      refine wpGO_start (later_moves) ?_
      intro Wc hacc
      repeat (first | (refine wpGO_skip (later_moves) rfl rfl rfl rfl (fun _ _ _ h => h) ?_ ; simp only [Act.put, List.setIfInBounds_toArray, List.set_cons_zero, List.set_cons_succ]) | (refine wpGO_light (v := ?_) (later_moves) rfl rfl rfl rfl (fun _ _ _ h => h) ?_ ?_ ; rotate_left ; (· (intro w' hR ; (first | have hcells := later_cellsD ((later_moves).trans _ _ _ hacc hR) | skip) ; go_simp ; try with_reducible rfl)) ; simp only [Act.put, List.setIfInBounds_toArray, List.set_cons_zero, List.set_cons_succ]) | (refine wpGO_free (v := ?_) rfl rfl rfl rfl (fun _ _ _ h => h) ?_ ?_ ; rotate_left ; (· (intro w' ; go_simp ; try with_reducible rfl)) ; simp only [Act.put, List.setIfInBounds_toArray, List.set_cons_zero, List.set_cons_succ]))
      refine wpGO_call (later_moves) rfl rfl rfl rfl (fun _ _ _ h => h) (fun _ => by go_simp <;> rfl) (fun w' hR => HC.out _) ?_
      simp only [Act.put, List.setIfInBounds_toArray, List.set_cons_zero, List.set_cons_succ]
      repeat (first | (refine wpGO_skip (later_moves) rfl rfl rfl rfl (fun _ _ _ h => h) ?_ ; simp only [Act.put, List.setIfInBounds_toArray, List.set_cons_zero, List.set_cons_succ]) | (refine wpGO_light (v := ?_) (later_moves) rfl rfl rfl rfl (fun _ _ _ h => h) ?_ ?_ ; rotate_left ; (· (intro w' hR ; (first | have hcells := later_cellsD ((later_moves).trans _ _ _ hacc hR) | skip) ; go_simp ; try with_reducible rfl)) ; simp only [Act.put, List.setIfInBounds_toArray, List.set_cons_zero, List.set_cons_succ]) | (refine wpGO_free (v := ?_) rfl rfl rfl rfl (fun _ _ _ h => h) ?_ ?_ ; rotate_left ; (· (intro w' ; go_simp ; try with_reducible rfl)) ; simp only [Act.put, List.setIfInBounds_toArray, List.set_cons_zero, List.set_cons_succ]))
      refine wpGO_heavy rfl rfl rfl rfl ?_
      intro wh hRh
      replace hacc := (later_moves).trans _ _ _ hacc hRh
      have hxd := below_chain (Below.refl wr.heap.size wr).drew hacc
      replace kl := kl.below hxd kl.lt
      replace hown := own_below hown hxd (Nat.le_refl _)
      replace hb0 := below_chain hb0 hxd
      clear hxd hacc hRh cf lf lg c0 ci
      have c2 : wh.cell? ⟨g, 0, none⟩ = some (.int .u64 (x : Int)) := by rw [hown.cellAt 0 (by omega)]; rfl
      have f2 := hown.frozenAt
      go_simp
      refine ⟨fun h => Bool.noConfusion h, ?_⟩
      obtain ⟨hown2, hg⟩ := hown.stored 0 (.int .u64 (z : Int))
      rw [HST.out] at hown2
      replace kl := kl.grown hg (fun e => by have := Option.some.inj e; first | omega | (exact absurd this (by assumption)) | (exact absurd this.symm (by assumption)))
      replace hb0 := hb0.trans (below_of_only hg hb0.size (by omega))
      clear hg f2 c2 hown
      generalize wh.setCell _ _ = we at kl hown2 hb0 ⊢
      refine wpGO_doneP rfl ?_
      have cl := kl.cell
      go_wp2_with fail
      go_roundw
      case rel => exact ⟨k + 1, t, by go_num, HT.out, ht3, ht4, kl, hown2, hb0⟩
      case measure => simp [intOf]; omega
    · have q1 : ¬ ((i : Int) < (n : Int)) := by omega
      have HE := Lib.hid (show linA L.p L.block l k = linA L.p L.block l (l.length / L.block) by
        have h := HK.out
        have h2 := HNN.out
        have : l.length / L.block = k := by
          rw [Nat.div_eq_iff (by omega)]
          have h3 : (k + 1) * L.block = k * L.block + L.block := Nat.succ_mul _ _
          omega
        rw [this])
      go_wp2
      go_ret
      rw [HE.out] at hown
      exact ⟨_, rfl, by rw [← HNN.out]; exact hown, hb0⟩
end Go.Proofs.YtefnagiffllhbaaGreat
