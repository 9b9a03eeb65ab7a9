/- A part of the proof: PoF. No condition. -/
import Derived.Test.YtakjnmojigechaaGreatJA25
import Derived.Test.YtakjnmojigechaaGreatJA30

namespace Go.Proofs.YtakjnmojigechaaGreat
open Go.RowKit
def zeroF (p b i : Nat) : Nat := if i = 0 then p - 1 else if i = b then 1 else 0
def zeroP (p b : Nat) : List Nat := (List.range (b + 1)).map (zeroF p b)
theorem zeroF_set {p b : Nat} (hb : 0 < b) : ((fillC (b + 1) fun _ => 0).setIfInBounds 0 (.int .u64 ((p - 1 : Nat) : Int))).setIfInBounds b (.int .u64 ((1 : Nat) : Int)) = fillC (b + 1) (zeroF p b) := by
  rw [fill_set, fill_set]
  refine fill_same fun i hi => ?_
  simp only [putF, zeroF]
  by_cases h : i = b
  · subst h; simp; omega
  · rw [if_neg h]
    by_cases h0 : i = 0
    · simp [h0]
    · simp [h0, h]
theorem zeroF_lt {p b : Nat} (hp : 1 < p) (i : Nat) : zeroF p b i < p := by
  unfold zeroF
  split
  · omega
  · split <;> omega
set_option maxRecDepth 100000 in
set_option maxHeartbeats 1000000 in
theorem rZero_any (L : LayR) (w : World) (hL : LayOk L) :
    Calls Tryz.prog 106 #[.agg (layCs L)] w fun e w' => ∃ v, e = .returned v ∧ RWd w' [v] (zeroP L.p L.block) ∧ Below w.heap.size w w' := by
  obtain ⟨hp1, hp2⟩ := okP_lt hL.p
  have hb1 := hL.b1
  have hb2 := hL.b2
  obtain ⟨n, hn⟩ : ∃ n, n = L.block + 1 := ⟨_, rfl⟩
  obtain ⟨pm, hpm⟩ : ∃ pm, pm = L.p - 1 := ⟨_, rfl⟩
  have e1 : (L.block : Int) + 1 = (n : Int) := by omega
  have e2 : IntKind.i64.wrap (n : Int) = (n : Int) := wr_i64 _ (by omega) (by omega)
  have e3 : IntKind.u64.wrap ((L.p : Int) - 1) = (pm : Int) := by rw [hpm]; exact wr_sub _ 1 (by omega) hp2
  have e4 : (0 : Int) < (n : Int) := by omega
  have e5 : (L.block : Int) < (n : Int) := by omega
  have e6 : (0 : Int) ≤ (L.block : Int) := by omega
  have e7 : 0 < n := by omega
  have e8 : L.block < n := by omega
  have e9 : (n : Int) ≤ 257 := by omega
  have HST := Lib.hid (show ((fillC n fun _ => 0).setIfInBounds 0 (.int .u64 (pm : Int))).setIfInBounds L.block (.int .u64 1) = fillC n (zeroF L.p L.block) by rw [hn, hpm]; exact zeroF_set (by omega))
  have HB := Lib.hid (show ∀ g w, Blk w g 22 (fillC n (zeroF L.p L.block)) → RWd w [.slice (some ⟨g, 0, none⟩) n n] (zeroP L.p L.block) from fun g w h => by
    have := fill_rwd h (fun i _ => Nat.lt_trans (zeroF_lt (by omega) i) hp2) (by simp [maxLen]; omega)
    rw [hn] at this ⊢
    exact this)
  have mk := mk_words n (by omega)
  clear hn hpm hL hp1 hp2 hb1 hb2
  obtain ⟨c0, hc0⟩ : ∃ c0, c0 = (fillC n fun _ => 0) := ⟨_, rfl⟩
  have HC0 := Lib.hid (show ∀ i, i < n → c0[i]? = some (.int .u64 0) from fun i hi => by rw [hc0, fill_get _ hi]; rfl)
  have HCB := Lib.hid (show (c0.setIfInBounds 0 (.int .u64 (pm : Int)))[L.block]? = some (.int .u64 (if L.block = 0 then (pm : Int) else 0)) by rw [hc0, fill_set, fill_get _ e8]; simp only [putF]; split <;> rfl)
  rw [← hc0] at mk HST
  clear hc0
  unfold layCs at *
  obtain ⟨kl, kg, hb0, -⟩ := boxes2 w 39 22 #[.int .u64 (L.p : Int), .int .i64 (L.block : Int), .int .i64 (L.queries : Int), .int .i64 (L.k : Int), .int .i64 (L.n : Int), .int .i64 (L.secret : Int), .int .i64 (L.rows : Int), .int .i64 (L.a : Int), .int .i64 (L.b : Int), .int .i64 (L.b : Int), .int .i64 (L.b : Int)] c0
  go_enter Tryz.func106, Tryz.ntmps106
  go_upto_region 2 with fail
  generalize (w.alloc _).alloc _ = w1 at kl kg hb0 ⊢
  have hg : w.heap.size ≤ w.heap.size + 1 := by omega
  have hne : w.heap.size ≠ w.heap.size + 1 := by omega
  generalize w.heap.size + 1 = g at kg hg hne ⊢
  have cl := kl.cell
  have cg := kg.cell 0
  rw [HC0.out 0 e7] at cg
  have fg := kg.frozen
  go_upto_region 3 with fail
  have hgr := set_only (w := w1) g 0 (.int .u64 (pm : Int))
  replace kg := kg.set_ 0 (.int .u64 (pm : Int))
  replace kl := kl.grown hgr (fun e => hne (Option.some.inj e))
  replace hb0 := hb0.trans (below_of_only hgr hb0.size hg)
  clear cl cg fg hgr
  generalize w1.setCell _ _ = w2 at kl kg hb0 ⊢
  have cl := kl.cell
  have cg := kg.cell L.block
  rw [HCB.out] at cg
  have fg := kg.frozen
  go_upto_region 4 with fail
  have hgr := set_only (w := w2) g L.block (.int .u64 1)
  replace kg := kg.set_ L.block (.int .u64 1)
  rw [HST.out] at kg
  replace hb0 := hb0.trans (below_of_only hgr hb0.size hg)
  clear cl cg fg hgr kl
  generalize w2.setCell _ _ = w3 at kg hb0 ⊢
  go_wp2
  go_ret
  exact ⟨_, rfl, HB.out _ _ kg, hb0⟩
set_option maxRecDepth 100000 in
set_option maxHeartbeats 1000000 in
theorem rPad_any (A : Option Addr) (n c m : Nat) (l : List Nat) (w : World) (hl : RWd w [.slice A n c] l) (hn : n ≤ 100000) (hm : m ≤ 100000) :
    Calls Tryz.prog 105 #[.slice A n c, .int .i64 (m : Int)] w fun e w' => ∃ v, e = .returned v ∧ RWd w' [v] (padP l m) ∧ Below w.heap.size w w' := by
  obtain ⟨rfl, h1, h2, hlt, hrd⟩ := lw_at hl
  have hal := (Below.refl w.heap.size w).alloc (Nat.le_refl _) (.cells #[] 22)
  have HLT := Lib.hid (show ∀ k, ∀ x ∈ l ++ List.replicate k 0, x < 18446744073709551616 from fun k x hx => by
    rcases List.mem_append.1 hx with h | h
    · exact hlt x h
    · rw [(List.mem_replicate.1 h).2]; omega)
  have HS := Lib.hid (show ∀ k, l ++ List.replicate k 0 ++ [0] = l ++ List.replicate (k + 1) 0 from fun k => by rw [List.append_assoc, List.replicate_succ'])
  have HP := Lib.hid (show padP l m = l ++ List.replicate (m - l.length) 0 from rfl)
  rw [HP.out]
  obtain ⟨f, hf⟩ : ∃ f, f = fun k => l ++ List.replicate k 0 := ⟨_, rfl⟩
  have H0 := Lib.hid (show f 0 = l by rw [hf]; simp)
  have HF := Lib.hid (show ∀ k, f k ++ [0] = f (k + 1) from fun k => by rw [hf]; exact HS.out k)
  have HFL := Lib.hid (show ∀ k, ∀ x ∈ f k, x < 18446744073709551616 from fun k => by rw [hf]; exact HLT.out k)
  rw [show l ++ List.replicate (m - l.length) 0 = f (m - l.length) by rw [hf]]
  clear HS HLT HP hf hlt h1 h2 hl
  go_enter Tryz.func105, Tryz.ntmps105
  go_wp2_with (at_builtin; refine wpl_append rfl _ _ rfl el_w rfl (own_empty w 22 (Nat.le_refl _)) rfl (hrd.alloc _) (one_U64 l) (by omega) (by simp) ?_)
  intro v1 w1 hown hgrow hblk
  have hB := lw_grow (own_empty w 22 (Nat.le_refl _)) hgrow (by simp)
  replace hB := hal.trans hB
  obtain ⟨t, ht⟩ : ∃ t, t = l.length := ⟨_, rfl⟩
  have hown1 : w1.ownsRow w.heap.size 22 1 v1 t (U64 (f 0)) := by
    rw [H0.out, ht]; simpa using hown
  have HT := Lib.hid ht
  clear hgrow hblk hown hal ht hrd
  go_wp2_with fail
  go_loopw [5] (fun v wr => ∃ k s : Nat, Hid (s = t + k ∧ (k = 0 ∨ s ≤ m)) ∧ s ≤ 200000 ∧ wr.ownsRow w.heap.size 22 1 v s (U64 (f k)) ∧ Below w.heap.size w wr) (fun v _ => match v with | .slice _ n _ => m - n | _ => 0)
  case atStart => exact ⟨0, t, Lib.hid ⟨rfl, .inl rfl⟩, by have := HT.out; omega, hown1, hB⟩
  case round =>
    clear hown1 hB
    obtain ⟨k, s, HK, hs, hown, hb⟩ := hrel
    obtain ⟨A1, c1, rfl, hc1, hc2, -, -⟩ := own_form hown
    by_cases hlt : s < m
    · have g1 : (s : Int) < (m : Int) := by omega
      have HF1 := Lib.hid (HF.out k)
      go_wp2_with (at_builtin; refine wpl_append rfl _ _ rfl el_w rfl (hown.alloc _) rfl (rd_one _ _ _) (one_U64 [0]) (by omega) (by simp; have := hb.size; omega) ?_)
      intro v' wn hown' hgrow hblk
      have hal := (Below.refl wr.heap.size wr).alloc (Nat.le_refl _) (.cells #[.int .u64 (0 : Int)] 22)
      have hB := lw_grow (hown.alloc _) hgrow (by simp; have := hb.size; omega)
      replace hb := (below_on hb hal hb.size).trans hB
      replace hown : wn.ownsRow w.heap.size 22 1 v' (s + 1) (U64 (f (k + 1))) := lw_app (b := [0]) hown' HF1.out
      clear hown' hgrow hblk hal hB
      obtain ⟨A2, c2, rfl, -⟩ := own_form hown
      go_wp2
      go_roundw
      case rel => exact ⟨k + 1, s + 1, Lib.hid (by have := HK.out; omega), by omega, hown, hb⟩
      case measure => simp; omega
    · have g1 : ¬ ((s : Int) < (m : Int)) := by omega
      have HE := Lib.hid (show f k = f (m - l.length) by
        have h := HK.out
        have h2 := HT.out
        rcases h.2 with h3 | h3
        · rw [h3, show m - l.length = 0 by omega]
        · rw [show k = m - l.length by omega])
      have hlw := lw_own hown (HFL.out k)
      clear hown
      go_wp2
      go_ret
      rw [HE.out] at hlw
      exact ⟨_, rfl, hlw, hb⟩
end Go.Proofs.YtakjnmojigechaaGreat
