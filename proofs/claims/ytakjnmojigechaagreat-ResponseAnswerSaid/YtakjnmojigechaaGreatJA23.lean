/- A part of the proof: RefL. No condition. -/
import Derived.Test.YtakjnmojigechaaGreatJA20
import Derived.Test.YtakjnmojigechaaGreatJA21
import Derived.Test.YtakjnmojigechaaGreatJA22

namespace Go.Proofs.YtakjnmojigechaaGreat
open Go.RowKit
theorem rNew_any (p : Nat) (pub vars : Int) (A : Option Addr) (n c : Nat) (rows : List RowR) (bl bw qs : Int) (w : World) (hr : RSl 3 RRow w [.slice A n c] rows) (ht : tabOk p pub vars rows = true) :
    Calls Tryz.prog 93 (newArgs p pub vars A n c bl bw qs) w fun e w' => NewPost ⟨p, pub, vars, rows.length, bl, bw, qs⟩ e ∧ Below w.heap.size w w' := by
  have bad : newErr ⟨p, pub, vars, rows.length, bl, bw, qs⟩ = 1 → ∀ {e : Ending} {w' : World}, (e = .returned (.tuple #[.agg layZ, .int .i64 1]) ∧ Below w.heap.size w w') → NewPost ⟨p, pub, vars, rows.length, bl, bw, qs⟩ e ∧ Below w.heap.size w w' := fun he _ _ h => ⟨⟨_, _, h.1, .inl ⟨by decide, rfl, he.symm⟩⟩, h.2⟩
  by_cases h0 : bl < 2
  · exact (rNew_bad1 p pub vars A n c rows bl bw qs w hr ht h0).mono fun _ _ => bad (if_pos (.inl h0))
  by_cases h1 : 256 < bl
  · exact (rNew_bad2 p pub vars A n c rows bl bw qs w hr ht (by omega) h1).mono fun _ _ => bad (if_pos (.inr (.inl h1)))
  by_cases h2 : bl.toNat &&& (bl.toNat - 1) = 0
  rotate_left
  · exact (rNew_bad3 p pub vars A n c rows bl bw qs w hr ht (by omega) (by omega) h2).mono fun _ _ => bad (if_pos (.inr (.inr (.inl h2))))
  by_cases h3 : qs < 1
  · exact (rNew_bad4 p pub vars A n c rows bl bw qs w hr ht (by omega) (by omega) h2 h3).mono fun _ _ => bad (if_pos (.inr (.inr (.inr (.inl h3)))))
  by_cases h4 : 64 < qs
  · exact (rNew_bad5 p pub vars A n c rows bl bw qs w hr ht (by omega) (by omega) h2 (by omega) h4).mono fun _ _ => bad (if_pos (.inr (.inr (.inr (.inr (.inl h4))))))
  by_cases h5 : bw ≠ 1 ∧ bw ≠ 2 ∧ bw ≠ 4 ∧ bw ≠ 8
  · exact (rNew_bad6 p pub vars A n c rows bl bw qs w hr ht (by omega) (by omega) h2 (by omega) (by omega) h5).mono fun _ _ => bad (if_pos (.inr (.inr (.inr (.inr (.inr h5))))))
  have hpv : 0 ≤ pub ∧ pub < vars := by
    have h := ht
    unfold tabOk at h
    simp only [Bool.and_eq_true, Bool.not_eq_true', decide_eq_false_iff_not] at h
    omega
  obtain ⟨U, rfl⟩ := Int.eq_ofNat_of_zero_le hpv.1
  obtain ⟨V, rfl⟩ := Int.eq_ofNat_of_zero_le (show 0 ≤ vars by omega)
  obtain ⟨b, rfl⟩ := Int.eq_ofNat_of_zero_le (show 0 ≤ bl by omega)
  obtain ⟨q, rfl⟩ := Int.eq_ofNat_of_zero_le (show 0 ≤ qs by omega)
  rw [Int.toNat_natCast] at h2
  have h6 : bw = 1 ∨ bw = 2 ∨ bw = 4 ∨ bw = 8 := by omega
  rcases h6 with rfl | rfl | rfl | rfl
  · exact rNew_good1 p U V A n c rows b q w hr ht (by omega) (by omega) h2 (by omega) (by omega)
  · exact rNew_good2 p U V A n c rows b q w hr ht (by omega) (by omega) h2 (by omega) (by omega)
  · exact rNew_good4 p U V A n c rows b q w hr ht (by omega) (by omega) h2 (by omega) (by omega)
  · exact rNew_good8 p U V A n c rows b q w hr ht (by omega) (by omega) h2 (by omega) (by omega)
theorem newPost_size {x : NewIn} {e : Ending} (h : NewPost x e) : ∃ y0 y1 y2 y3 y4 y5 y6 y7 y8 y9 y10 er : Int, e = .returned (.tuple #[.agg #[.int .u64 y0, .int .i64 y1, .int .i64 y2, .int .i64 y3, .int .i64 y4, .int .i64 y5, .int .i64 y6, .int .i64 y7, .int .i64 y8, .int .i64 y9, .int .i64 y10], .int .i64 er]) ∧ (er = 0 → ∃ L, LayOk L ∧ LayFor L x ∧ #[.int .u64 y0, .int .i64 y1, .int .i64 y2, .int .i64 y3, .int .i64 y4, .int .i64 y5, .int .i64 y6, .int .i64 y7, .int .i64 y8, .int .i64 y9, .int .i64 y10] = layCs L) := by
  obtain ⟨lcs, er, he, h | h⟩ := h
  · obtain ⟨h1, rfl, -⟩ := h
    exact ⟨_, _, _, _, _, _, _, _, _, _, _, er, he, fun h => absurd h h1⟩
  · obtain ⟨h1, L, h2, h3, rfl⟩ := h
    exact ⟨_, _, _, _, _, _, _, _, _, _, _, er, he, fun _ => ⟨L, h2, h3, rfl⟩⟩
def RightPost (x : NewIn) (e : Ending) : Prop := ∃ (y0 y1 y2 y3 y4 y5 y6 y7 y8 y9 y10 : Int) (b : Bool), e = .returned (.tuple #[.agg #[.int .u64 y0, .int .i64 y1, .int .i64 y2, .int .i64 y3, .int .i64 y4, .int .i64 y5, .int .i64 y6, .int .i64 y7, .int .i64 y8, .int .i64 y9, .int .i64 y10], .bool b]) ∧ (b = true → ∃ L, LayOk L ∧ LayFor L x ∧ #[.int .u64 y0, .int .i64 y1, .int .i64 y2, .int .i64 y3, .int .i64 y4, .int .i64 y5, .int .i64 y6, .int .i64 y7, .int .i64 y8, .int .i64 y9, .int .i64 y10] = layCs L)
def caseCs (p : Nat) (pub vars : Int) (rows : Value) (bl bw qs : Int) (ws : Value) : Array Value := #[.int .u64 (p : Int), .int .i64 pub, .int .i64 vars, rows, .int .i64 bl, .int .i64 bw, .int .i64 qs, ws]
theorem Blk.cells' {w : World} {g : Nat} {t : TypeId} {cs : Array Value} (h : Blk w g t cs) : (∀ i, w.cell? ⟨g, i, none⟩ = cs[i]?) ∧ (∀ i, w.frozen? ⟨g, i, none⟩ = false) := ⟨h.cell, h.frozen⟩
set_option linter.unusedVariables false in
set_option maxRecDepth 100000 in
set_option maxHeartbeats 4000000 in
theorem rRight24_gen (lim : Int) (p : Nat) (pub vars : Int) (A B : Option Addr) (n c m d : Nat) (rows : List RowR) (ws : List Nat) (bl bw qs : Int) (w : World) (hr : RSl 3 RRow w [.slice A n c] rows) (hw : RWd w [.slice B m d] ws) (hp : p < 18446744073709551616) :
    Calls Tryz.prog 37 #[.agg (caseCs p pub vars (.slice A n c) bl bw qs (.slice B m d)), .int .i64 lim] w fun e w' => (RightPost ⟨p, pub, vars, rows.length, bl, bw, qs⟩ e ∧ (∀ v, e = .returned (.tuple #[v, .bool true]) → tabOk p pub vars rows = true ∧ asgOk p vars ws = true)) ∧ Below w.heap.size w w' := by
  have HV := Lib.hid (fun w' (hb : Below w.heap.size w w') => rValid_any p pub vars A n c rows w' (kept_RSl kept_RRow _ _ _ _ hb hr) hp)
  have HA := Lib.hid (fun w' (hb : Below w.heap.size w w') => rAssign_any p pub vars (.slice A n c) B m d ws w' (kept_RWd _ _ _ _ hb hw) hp)
  have HS := Lib.hid (fun w' (hb : Below w.heap.size w w') => rSmall_any p pub vars A n c rows w' (kept_RSl kept_RRow _ _ _ _ hb hr))
  have HN := Lib.hid (fun ht w' (hb : Below w.heap.size w w') => rNew_any p pub vars A n c rows bl bw qs w' (kept_RSl kept_RRow _ _ _ _ hb hr) ht)
  obtain ⟨A', n', c', he, hlen, hnc, hmx, -⟩ := hr
  simp at he
  obtain ⟨rfl, rfl, rfl⟩ := he
  subst hlen
  have gm : (rows.length : Int) ≤ 9223372036854775807 := by
    simp [maxLen] at hmx
    omega
  unfold caseCs
  have hb0 : Below w.heap.size w ((w.alloc (.cells #[.int .u64 (p : Int), .int .i64 pub, .int .i64 vars, .slice A rows.length c, .int .i64 bl, .int .i64 bw, .int .i64 qs, .slice B m d] 30)).alloc (.cells #[.int .u64 0, .int .i64 0, .int .i64 0, .int .i64 0, .int .i64 0, .int .i64 0, .int .i64 0, .int .i64 0, .int .i64 0, .int .i64 0, .int .i64 0] 39)) := ((Below.refl _ w).alloc (Nat.le_refl _) _).alloc (by simp) _
  by_cases z1 : lim < (rows.length : Int)
  · have d1 : decide (lim < (rows.length : Int)) = true := decide_eq_true z1
    go_enter Tryz.func37, Tryz.ntmps37
    go_wp2_with fail
    refine bodyPost_ret (v := .tuple #[.agg #[.int .u64 0, .int .i64 0, .int .i64 0, .int .i64 0, .int .i64 0, .int .i64 0, .int .i64 0, .int .i64 0, .int .i64 0, .int .i64 0, .int .i64 0], .bool false]) (by simp [results, Tryz.results37, go_sem]) rfl ⟨⟨⟨_, _, _, _, _, _, _, _, _, _, _, _, rfl, fun h => by cases h⟩, fun v h => by simp at h⟩, hb0⟩
  · have d1 : decide (lim < (rows.length : Int)) = false := decide_eq_false z1
    clear z1
    go_enter Tryz.func37, Tryz.ntmps37
    go_wp2_with fail
    refine (HS.out _ hb0).mono ?_
    rintro e w1 ⟨⟨b1, rfl⟩, hb⟩
    obtain ⟨k3, k4, hbw⟩ := two_boxes hb
    obtain ⟨c3, f3⟩ := k3.cells'
    obtain ⟨c4, f4⟩ := k4.cells'
    clear hb
    cases b1
    · go_wp2_with fail
      have kW := set11_blk k4 (.int .u64 0) (.int .i64 0) (.int .i64 0) (.int .i64 0) (.int .i64 0) (.int .i64 0) (.int .i64 0) (.int .i64 0) (.int .i64 0) (.int .i64 0) (.int .i64 0)
      have hW := set11_below (g := w.heap.size + 1) hbw (by omega) (.int .u64 0) (.int .i64 0) (.int .i64 0) (.int .i64 0) (.int .i64 0) (.int .i64 0) (.int .i64 0) (.int .i64 0) (.int .i64 0) (.int .i64 0) (.int .i64 0)
      revert kW hW
      generalize ((((((((((World.setCell _ _ _).setCell _ _).setCell _ _).setCell _ _).setCell _ _).setCell _ _).setCell _ _).setCell _ _).setCell _ _).setCell _ _).setCell _ _ = wf
      intro kW hW
      have c4' := kW.cell
      exact bodyPost_ret (v := .tuple #[.agg #[.int .u64 0, .int .i64 0, .int .i64 0, .int .i64 0, .int .i64 0, .int .i64 0, .int .i64 0, .int .i64 0, .int .i64 0, .int .i64 0, .int .i64 0], .bool false]) (by simp [results, Tryz.results37, go_sem, c4']) rfl ⟨⟨⟨_, _, _, _, _, _, _, _, _, _, _, _, rfl, fun h => by cases h⟩, fun v h => by simp at h⟩, hW⟩
    go_wp2_with fail
    refine (HV.out _ hbw).mono ?_
    rintro e w2 ⟨rfl, hb2⟩
    cases ht : tabOk p pub vars rows
    · replace k4 := k4.below hb2 k4.lt
      replace hbw := below_chain hbw hb2
      clear c3 f3 c4 f4
      obtain ⟨c4, f4⟩ := k4.cells'
      go_wp2_with fail
      have kW := set11_blk k4 (.int .u64 0) (.int .i64 0) (.int .i64 0) (.int .i64 0) (.int .i64 0) (.int .i64 0) (.int .i64 0) (.int .i64 0) (.int .i64 0) (.int .i64 0) (.int .i64 0)
      have hW := set11_below (g := w.heap.size + 1) hbw (by omega) (.int .u64 0) (.int .i64 0) (.int .i64 0) (.int .i64 0) (.int .i64 0) (.int .i64 0) (.int .i64 0) (.int .i64 0) (.int .i64 0) (.int .i64 0) (.int .i64 0)
      revert kW hW
      generalize ((((((((((World.setCell _ _ _).setCell _ _).setCell _ _).setCell _ _).setCell _ _).setCell _ _).setCell _ _).setCell _ _).setCell _ _).setCell _ _).setCell _ _ = wf
      intro kW hW
      have c4' := kW.cell
      exact bodyPost_ret (v := .tuple #[.agg #[.int .u64 0, .int .i64 0, .int .i64 0, .int .i64 0, .int .i64 0, .int .i64 0, .int .i64 0, .int .i64 0, .int .i64 0, .int .i64 0, .int .i64 0], .bool false]) (by simp [results, Tryz.results37, go_sem, c4']) rfl ⟨⟨⟨_, _, _, _, _, _, _, _, _, _, _, _, rfl, fun h => by cases h⟩, fun v h => by simp at h⟩, hW⟩
    replace k3 := k3.below hb2 k3.lt
    replace k4 := k4.below hb2 k4.lt
    replace hbw := below_chain hbw hb2
    clear c3 f3 c4 f4 hb2
    obtain ⟨c3, f3⟩ := k3.cells'
    obtain ⟨c4, f4⟩ := k4.cells'
    have HT := Lib.hid ht
    clear ht
    go_wp2_with fail
    refine (HA.out _ hbw).mono ?_
    rintro e w3 ⟨rfl, hb3⟩
    cases ha : asgOk p vars ws
    · replace k4 := k4.below hb3 k4.lt
      replace hbw := below_chain hbw hb3
      clear c3 f3 c4 f4
      obtain ⟨c4, f4⟩ := k4.cells'
      go_wp2_with fail
      have kW := set11_blk k4 (.int .u64 0) (.int .i64 0) (.int .i64 0) (.int .i64 0) (.int .i64 0) (.int .i64 0) (.int .i64 0) (.int .i64 0) (.int .i64 0) (.int .i64 0) (.int .i64 0)
      have hW := set11_below (g := w.heap.size + 1) hbw (by omega) (.int .u64 0) (.int .i64 0) (.int .i64 0) (.int .i64 0) (.int .i64 0) (.int .i64 0) (.int .i64 0) (.int .i64 0) (.int .i64 0) (.int .i64 0) (.int .i64 0)
      revert kW hW
      generalize ((((((((((World.setCell _ _ _).setCell _ _).setCell _ _).setCell _ _).setCell _ _).setCell _ _).setCell _ _).setCell _ _).setCell _ _).setCell _ _).setCell _ _ = wf
      intro kW hW
      have c4' := kW.cell
      exact bodyPost_ret (v := .tuple #[.agg #[.int .u64 0, .int .i64 0, .int .i64 0, .int .i64 0, .int .i64 0, .int .i64 0, .int .i64 0, .int .i64 0, .int .i64 0, .int .i64 0, .int .i64 0], .bool false]) (by simp [results, Tryz.results37, go_sem, c4']) rfl ⟨⟨⟨_, _, _, _, _, _, _, _, _, _, _, _, rfl, fun h => by cases h⟩, fun v h => by simp at h⟩, hW⟩
    replace k3 := k3.below hb3 k3.lt
    replace k4 := k4.below hb3 k4.lt
    replace hbw := below_chain hbw hb3
    clear c3 f3 c4 f4 hb3
    obtain ⟨c3, f3⟩ := k3.cells'
    obtain ⟨c4, f4⟩ := k4.cells'
    have HAs := Lib.hid ha
    clear ha
    go_wp2_with fail
    refine (HN.out HT.out _ hbw).mono ?_
    rintro e w4 ⟨hpost, hb4⟩
    obtain ⟨y0, y1, y2, y3, y4, y5, y6, y7, y8, y9, y10, er, rfl, hL⟩ := newPost_size hpost
    have HL := Lib.hid hL
    clear hL hpost
    replace k4 := k4.below hb4 k4.lt
    replace hbw := below_chain hbw hb4
    clear c3 f3 c4 f4 hb4 k3
    obtain ⟨c4, f4⟩ := k4.cells'
    have l4 := k4.lt
    by_cases h0 : er = 0
    · have HE := Lib.hid (show RightPost ⟨p, pub, vars, rows.length, bl, bw, qs⟩ (.returned (.tuple #[.agg #[.int .u64 y0, .int .i64 y1, .int .i64 y2, .int .i64 y3, .int .i64 y4, .int .i64 y5, .int .i64 y6, .int .i64 y7, .int .i64 y8, .int .i64 y9, .int .i64 y10], .bool true])) from ⟨_, _, _, _, _, _, _, _, _, _, _, _, rfl, fun _ => HL.out h0⟩)
      clear HL
      subst h0
      go_wp2_with fail
      have kW0 := set11_blk k4 (.int .u64 y0) (.int .i64 y1) (.int .i64 y2) (.int .i64 y3) (.int .i64 y4) (.int .i64 y5) (.int .i64 y6) (.int .i64 y7) (.int .i64 y8) (.int .i64 y9) (.int .i64 y10)
      have hW0 := set11_below (g := w.heap.size + 1) hbw (by omega) (.int .u64 y0) (.int .i64 y1) (.int .i64 y2) (.int .i64 y3) (.int .i64 y4) (.int .i64 y5) (.int .i64 y6) (.int .i64 y7) (.int .i64 y8) (.int .i64 y9) (.int .i64 y10)
      revert kW0 hW0
      generalize ((((((((((w4.setCell _ _).setCell _ _).setCell _ _).setCell _ _).setCell _ _).setCell _ _).setCell _ _).setCell _ _).setCell _ _).setCell _ _).setCell _ _ = wf
      intro kW0 hW0
      have kW := kW0.alloc (.cells #[.int .u64 y0, .int .i64 y1, .int .i64 y2, .int .i64 y3, .int .i64 y4, .int .i64 y5, .int .i64 y6, .int .i64 y7, .int .i64 y8, .int .i64 y9, .int .i64 y10] 39)
      have hW := hW0.alloc hW0.size (.cells #[.int .u64 y0, .int .i64 y1, .int .i64 y2, .int .i64 y3, .int .i64 y4, .int .i64 y5, .int .i64 y6, .int .i64 y7, .int .i64 y8, .int .i64 y9, .int .i64 y10] 39)
      have c4' := kW.cell
      exact bodyPost_ret (v := .tuple #[.agg #[.int .u64 y0, .int .i64 y1, .int .i64 y2, .int .i64 y3, .int .i64 y4, .int .i64 y5, .int .i64 y6, .int .i64 y7, .int .i64 y8, .int .i64 y9, .int .i64 y10], .bool true]) (by simp [results, Tryz.results37, go_sem, c4']) rfl ⟨⟨HE.out, fun _ _ => ⟨HT.out, HAs.out⟩⟩, hW⟩
    · have HE := Lib.hid (show RightPost ⟨p, pub, vars, rows.length, bl, bw, qs⟩ (.returned (.tuple #[.agg #[.int .u64 y0, .int .i64 y1, .int .i64 y2, .int .i64 y3, .int .i64 y4, .int .i64 y5, .int .i64 y6, .int .i64 y7, .int .i64 y8, .int .i64 y9, .int .i64 y10], .bool false])) from ⟨_, _, _, _, _, _, _, _, _, _, _, _, rfl, fun h => by cases h⟩)
      clear HL
      have g0 : (er == 0) = false := by rw [beq_eq_false_iff_ne]; exact h0
      go_wp2_with fail
      have kW0 := set11_blk k4 (.int .u64 y0) (.int .i64 y1) (.int .i64 y2) (.int .i64 y3) (.int .i64 y4) (.int .i64 y5) (.int .i64 y6) (.int .i64 y7) (.int .i64 y8) (.int .i64 y9) (.int .i64 y10)
      have hW0 := set11_below (g := w.heap.size + 1) hbw (by omega) (.int .u64 y0) (.int .i64 y1) (.int .i64 y2) (.int .i64 y3) (.int .i64 y4) (.int .i64 y5) (.int .i64 y6) (.int .i64 y7) (.int .i64 y8) (.int .i64 y9) (.int .i64 y10)
      revert kW0 hW0
      generalize ((((((((((w4.setCell _ _).setCell _ _).setCell _ _).setCell _ _).setCell _ _).setCell _ _).setCell _ _).setCell _ _).setCell _ _).setCell _ _).setCell _ _ = wf
      intro kW0 hW0
      have kW := kW0.alloc (.cells #[.int .u64 y0, .int .i64 y1, .int .i64 y2, .int .i64 y3, .int .i64 y4, .int .i64 y5, .int .i64 y6, .int .i64 y7, .int .i64 y8, .int .i64 y9, .int .i64 y10] 39)
      have hW := hW0.alloc hW0.size (.cells #[.int .u64 y0, .int .i64 y1, .int .i64 y2, .int .i64 y3, .int .i64 y4, .int .i64 y5, .int .i64 y6, .int .i64 y7, .int .i64 y8, .int .i64 y9, .int .i64 y10] 39)
      have c4' := kW.cell
      exact bodyPost_ret (v := .tuple #[.agg #[.int .u64 y0, .int .i64 y1, .int .i64 y2, .int .i64 y3, .int .i64 y4, .int .i64 y5, .int .i64 y6, .int .i64 y7, .int .i64 y8, .int .i64 y9, .int .i64 y10], .bool false]) (by simp [results, Tryz.results37, go_sem, c4']) rfl ⟨⟨HE.out, fun v h => by simp at h⟩, hW⟩
end Go.Proofs.YtakjnmojigechaaGreat
