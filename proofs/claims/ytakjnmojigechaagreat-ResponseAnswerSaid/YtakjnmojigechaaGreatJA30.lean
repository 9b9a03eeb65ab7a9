/- A part of the proof: MkD. No condition. -/
import Derived.Test.YtakjnmojigechaaGreatJA29

namespace Go.Proofs.YtakjnmojigechaaGreat
open Go.RowKit
def mrowP (L : LayR) (msg masks : List Nat) : Nat → Nat := plusP L.p L.block (vanP L.p L.block masks masks.length) (invP L.p L.block L.block.log2 msg)
set_option maxRecDepth 100000 in
set_option maxHeartbeats 1000000 in
theorem mRow_any (L : LayR) (A B : Option Addr) (n c m d : Nat) (msg masks : List Nat) (w : World) (hL : LayOk L) (hl : RWd w [.slice A n c] msg) (hk : RWd w [.slice B m d] masks) (hn : n = L.block) (hm : m ≤ 60000) :
    Calls Tryz.prog 64 #[.agg (layCs L), .slice A n c, .slice B m d] w fun e w' => ∃ g, e = .returned (.slice (some ⟨g, 0, none⟩) (L.block + m) (L.block + m)) ∧ w.heap.size ≤ g ∧ Blk w' g 22 (fillC (L.block + m) (mrowP L msg masks)) ∧ Below w.heap.size w w' := by
  have hb2 := hL.b2
  obtain ⟨hlen, j, hj⟩ := layLen hL
  have hlog : L.block.log2 = j := by rw [hj]; exact Nat.log2_two_pow
  have hml := (lw_at hk).1
  subst hn
  have HI := Lib.hid (fun w' (hb : Below w.heap.size w w') => tInverse_any L.p A L.block c j msg w' hL.p (kept_RWd _ _ _ _ hb hl) hlen hj)
  have HV := Lib.hid (fun w' (hb : Below w.heap.size w w') => vanishing_any L B m d masks w' hL (kept_RWd _ _ _ _ hb hk) (by omega))
  have HA := Lib.hid (fun g gb a b w ka kb hg => madd_any L g gb (L.block + m) L.block a b w hL ka kb hg (by omega) (by omega))
  have HR := Lib.hid (show mrowP L msg masks = plusP L.p L.block (vanP L.p L.block masks m) (invP L.p L.block j msg) by unfold mrowP; rw [hlog, hml])
  rw [HR.out]
  clear hlog hml hlen hj hL hl hk
  unfold layCs fv at *
  have kl := Blk.new w 55 #[.int .u64 (L.p : Int), .int .i64 (L.block : Int), .int .i64 (L.queries : Int), .int .i64 (L.k : Int), .int .i64 (L.n : Int), .int .i64 (L.secret : Int), .int .i64 (L.rows : Int), .int .i64 (L.a : Int), .int .i64 (L.b : Int), .int .i64 (L.b : Int), .int .i64 (L.b : Int)]
  have hb0 : Below w.heap.size w (w.alloc (.cells #[.int .u64 (L.p : Int), .int .i64 (L.block : Int), .int .i64 (L.queries : Int), .int .i64 (L.k : Int), .int .i64 (L.n : Int), .int .i64 (L.secret : Int), .int .i64 (L.rows : Int), .int .i64 (L.a : Int), .int .i64 (L.b : Int), .int .i64 (L.b : Int), .int .i64 (L.b : Int)] 55)) := (Below.refl _ _).alloc (Nat.le_refl _) _
  generalize vanP L.p L.block masks m = V at *
  generalize invP L.p L.block j msg = I at *
  obtain ⟨t, ht⟩ : ∃ t, t = L.block + m := ⟨_, rfl⟩
  rw [← ht] at HV HA ⊢
  clear ht HR
  go_enter Tryz.func64, Tryz.ntmps64
  go_wp2_with fail
  generalize w.alloc _ = w0 at kl hb0 ⊢
  refine (HI.out _ hb0).mono ?_
  rintro e w1 ⟨g1, rfl, hg1, k1, hb1⟩
  have hl1 := kl.lt
  replace kl := kl.below hb1 kl.lt
  replace hb0 := below_chain hb0 hb1
  clear hb1
  have cl := kl.cell
  go_wp2_with fail
  refine (HV.out _ hb0).mono ?_
  rintro e w2 ⟨g2, rfl, hg2, k2, hb3⟩
  have hl2 := k1.lt
  replace kl := kl.below hb3 kl.lt
  replace k1 := k1.below hb3 k1.lt
  replace hb0 := below_chain hb0 hb3
  clear hb3 cl
  have cl := kl.cell
  have hne : g2 ≠ g1 := by omega
  go_wp2_with fail
  refine (HA.out g2 g1 V I _ k2 k1 hne).mono ?_
  rintro e w3 ⟨rfl, k3, hg3⟩
  have hge : w.heap.size ≤ g2 := by have := hb0.size; omega
  replace hb0 := hb0.trans (below_of_only hg3 hb0.size hge)
  go_wp2
  go_ret
  exact ⟨g2, rfl, hge, k3, hb0⟩
set_option maxRecDepth 100000 in
set_option maxHeartbeats 1000000 in
theorem mQuad_any (L : LayR) (v0 v1 v2 v4 : Value) (A : Option Addr) (n c : Nat) (l : List Nat) (w : World) (hL : LayOk L) (h0 : slc v0) (h1 : slc v1) (h2 : slc v2) (h4 : slc v4) (hl : RWd w [.slice A n c] l) (hn : n ≤ 60000) :
    Calls Tryz.prog 67 #[.agg (layCs L), .agg #[v0, v1, v2, .slice A n c, v4]] w fun e w' => ∃ g, e = .returned (.slice (some ⟨g, 0, none⟩) (L.block + n) (L.block + n)) ∧ w.heap.size ≤ g ∧ Blk w' g 22 (fillC (L.block + n) (vanP L.p L.block l n)) ∧ Below w.heap.size w w' := by
  have HV := Lib.hid (fun w' (hb : Below w.heap.size w w') => vanishing_any L A n c l w' hL (kept_RWd _ _ _ _ hb hl) (by omega))
  obtain ⟨A0, n0, c0, rfl⟩ := h0
  obtain ⟨A1, n1, c1, rfl⟩ := h1
  obtain ⟨A2, n2, c2, rfl⟩ := h2
  obtain ⟨A4, n4, c4, rfl⟩ := h4
  clear hL hl
  generalize vanP L.p L.block l n = V at *
  obtain ⟨t, ht⟩ : ∃ t, t = L.block + n := ⟨_, rfl⟩
  rw [← ht] at HV ⊢
  clear ht
  unfold layCs at *
  obtain ⟨kl, kc, hb0, -⟩ := boxes2 w 55 42 #[.int .u64 (L.p : Int), .int .i64 (L.block : Int), .int .i64 (L.queries : Int), .int .i64 (L.k : Int), .int .i64 (L.n : Int), .int .i64 (L.secret : Int), .int .i64 (L.rows : Int), .int .i64 (L.a : Int), .int .i64 (L.b : Int), .int .i64 (L.b : Int), .int .i64 (L.b : Int)] #[.slice A0 n0 c0, .slice A1 n1 c1, .slice A2 n2 c2, .slice A n c, .slice A4 n4 c4]
  go_enter Tryz.func67, Tryz.ntmps67
  go_wp2_with fail
  refine (HV.out _ hb0).mono ?_
  rintro e w1 ⟨g1, rfl, hg1, k1, hb1⟩
  have hs := hb0.size
  go_wp2
  go_ret
  exact ⟨g1, rfl, by omega, k1, below_chain hb0 hb1⟩
set_option maxRecDepth 100000 in
set_option maxHeartbeats 1000000 in
theorem clone_any (A : Option Addr) (n c : Nat) (l : List Nat) (w : World) (hl : RWd w [.slice A n c] l) (hn : n ≤ 60000) :
    Calls Tryz.prog 126 #[.slice A n c] w fun e w' => ∃ v, e = .returned v ∧ w'.ownsRow w.heap.size 22 1 v n (U64 l) ∧ Below w.heap.size w w' := by
  obtain ⟨rfl, h1, h2, hlt, hrd⟩ := lw_at hl
  clear hl
  have hnil := fun (w : World) (a : Option Addr) (n c : Nat) => Lib.run_eql_slice_nil (P := Tryz.prog) w 28 22 a n c 0 0 Tryz.underlying28
  cases A with
  | none =>
    have h0 : l.length = 0 := by
      rcases Nat.eq_zero_or_pos l.length with h | h
      · exact h
      · obtain ⟨ad, e, -⟩ := hrd.2 h
        cases e
    have hl0 : l = [] := List.eq_nil_of_length_eq_zero h0
    subst hl0
    clear hrd h0 hlt
    go_enter Tryz.func126, Tryz.ntmps126
    go_wp2_with fail
    go_ret
    exact ⟨_, rfl, ⟨rfl, .inl ⟨rfl, rfl⟩⟩, Below.refl _ _⟩
  | some ad =>
    have gl : (l.length : Int) ≤ 60000 := by omega
    have hal := (Below.refl w.heap.size w).alloc (Nat.le_refl _) (.cells #[] 22)
    go_enter Tryz.func126, Tryz.ntmps126
    go_wp2_with (at_builtin; refine wpl_append rfl _ _ rfl el_w rfl (own_empty w 22 (Nat.le_refl _)) rfl (hrd.alloc _) (one_U64 l) (by omega) (by simp) ?_)
    intro v' wn hown' hgrow hblk
    have hB := lw_grow (own_empty w 22 (Nat.le_refl _)) hgrow (by simp)

    go_wp2
    go_ret
    exact ⟨_, rfl, hown', hal.trans hB⟩
end Go.Proofs.YtakjnmojigechaaGreat
