/-
  The document's side: ref27.Right.
-/
import Derived.Test.YtkaecidnkkcbaaaOrdK
namespace Go.Proofs.Ytkaecidnkkcbaaa
open Go.RowKit

/-- What Right hands back: if the first bool is true, a small layout of the table. -/
def Right27Post (p : Nat) (e : Ending) : Prop := ∃ (y0 y1 y2 y3 y4 y5 y6 y7 y8 y9 y10 : Int) (b s : Bool), e = .returned (.tuple #[.agg #[.int .u64 y0, .int .i64 y1, .int .i64 y2, .int .i64 y3, .int .i64 y4, .int .i64 y5, .int .i64 y6, .int .i64 y7, .int .i64 y8, .int .i64 y9, .int .i64 y10], .bool b, .bool s]) ∧ (b = true → ∃ L, LayOk L ∧ L.p = p ∧ L.n ≤ 64 ∧ L.a + 3 * L.b ≤ 40 ∧ #[.int .u64 y0, .int .i64 y1, .int .i64 y2, .int .i64 y3, .int .i64 y4, .int .i64 y5, .int .i64 y6, .int .i64 y7, .int .i64 y8, .int .i64 y9, .int .i64 y10] = layCs L)

theorem layCs_inj {y0 y1 y2 y3 y4 y5 y6 y7 y8 y9 y10 : Int} {L : LayR} (h : #[.int .u64 y0, .int .i64 y1, .int .i64 y2, .int .i64 y3, .int .i64 y4, .int .i64 y5, .int .i64 y6, .int .i64 y7, .int .i64 y8, .int .i64 y9, .int .i64 y10] = layCs L) : y0 = L.p ∧ y1 = L.block ∧ y2 = L.queries ∧ y3 = L.k ∧ y4 = L.n ∧ y5 = L.secret ∧ y6 = L.rows ∧ y7 = L.a ∧ y8 = L.b ∧ y9 = L.b ∧ y10 = L.b := by
  simpa [layCs] using h

set_option linter.unusedVariables false in
set_option maxRecDepth 100000 in
set_option maxHeartbeats 4000000 in
theorem rRight27_any (p : Nat) (pub vars : Int) (A B : Option Addr) (n c m d : Nat) (rows : List RowR) (ws : List Nat) (bl bw qs : Int) (coin seed : Int) (real : Bool) (w : World) (hr : RSl 3 RRow w [.slice A n c] rows) (hw : RWd w [.slice B m d] ws) (hp : p < 18446744073709551616) :
    Calls Try.prog 6 #[.agg #[.int .u64 (p : Int), .int .i64 pub, .int .i64 vars, .slice A n c, .int .i64 bl, .int .i64 bw, .int .i64 qs, .slice B m d, .int .u64 coin, .bool real, .int .u64 seed]] w fun e w' => Right27Post p e ∧ Below w.heap.size w w' := by
  have HR := Lib.hid (fun w' (hb : Below w.heap.size w w') => rRight24_any p pub vars A B n c m d rows ws bl bw qs w' (kept_RSl kept_RRow _ _ _ _ hb hr) (kept_RWd _ _ _ _ hb hw) hp)
  have HS := Lib.hid (fun ht ha w' (hb : Below w.heap.size w w') => rSatisfied_any p pub vars A B n c m d rows ws w' (kept_RSl kept_RRow _ _ _ _ hb hr) (kept_RWd _ _ _ _ hb hw) ht ha)
  obtain ⟨A', n', c', he, -⟩ := hr
  simp at he
  obtain ⟨rfl, rfl, rfl⟩ := he
  have hb0 : Below w.heap.size w ((w.alloc (.cells #[.int .u64 (p : Int), .int .i64 pub, .int .i64 vars, .slice A n c, .int .i64 bl, .int .i64 bw, .int .i64 qs, .slice B m d, .int .u64 coin, .bool real, .int .u64 seed] 32)).alloc (.cells #[.int .u64 0, .int .i64 0, .int .i64 0, .int .i64 0, .int .i64 0, .int .i64 0, .int .i64 0, .int .i64 0, .int .i64 0, .int .i64 0, .int .i64 0] 38)) := ((Below.refl _ w).alloc (Nat.le_refl _) _).alloc (by simp) _
  go_enter Try.func6, Try.ntmps6
  go_wp2_with fail
  refine (HR.out _ hb0).mono ?_
  rintro e w1 ⟨⟨hpost, htt⟩, hb⟩
  obtain ⟨k1, k2, hbw⟩ := two_boxes hb
  have l2 := k2.lt
  clear hb
  obtain ⟨y0, y1, y2, y3, y4, y5, y6, y7, y8, y9, y10, b, rfl, hL⟩ := hpost
  cases b
  · have HE := Lib.hid (show Right27Post p (.returned (.tuple #[.agg #[.int .u64 y0, .int .i64 y1, .int .i64 y2, .int .i64 y3, .int .i64 y4, .int .i64 y5, .int .i64 y6, .int .i64 y7, .int .i64 y8, .int .i64 y9, .int .i64 y10], .bool false, .bool false])) from ⟨_, _, _, _, _, _, _, _, _, _, _, _, _, rfl, fun h => by cases h⟩)
    clear hL htt
    obtain ⟨c2, f2⟩ := k2.cells'
    go_wp2_with fail
    have kW0 := set11_blk k2 (.int .u64 y0) (.int .i64 y1) (.int .i64 y2) (.int .i64 y3) (.int .i64 y4) (.int .i64 y5) (.int .i64 y6) (.int .i64 y7) (.int .i64 y8) (.int .i64 y9) (.int .i64 y10)
    have hW0 := set11_below (g := w.heap.size + 1) hbw (by omega) (.int .u64 y0) (.int .i64 y1) (.int .i64 y2) (.int .i64 y3) (.int .i64 y4) (.int .i64 y5) (.int .i64 y6) (.int .i64 y7) (.int .i64 y8) (.int .i64 y9) (.int .i64 y10)
    revert kW0 hW0
    generalize ((((((((((World.setCell _ _ _).setCell _ _).setCell _ _).setCell _ _).setCell _ _).setCell _ _).setCell _ _).setCell _ _).setCell _ _).setCell _ _).setCell _ _ = wf
    intro kW0 hW0
    have kW := kW0.alloc (.cells #[.int .u64 y0, .int .i64 y1, .int .i64 y2, .int .i64 y3, .int .i64 y4, .int .i64 y5, .int .i64 y6, .int .i64 y7, .int .i64 y8, .int .i64 y9, .int .i64 y10] 38)
    have hW := hW0.alloc hW0.size (.cells #[.int .u64 y0, .int .i64 y1, .int .i64 y2, .int .i64 y3, .int .i64 y4, .int .i64 y5, .int .i64 y6, .int .i64 y7, .int .i64 y8, .int .i64 y9, .int .i64 y10] 38)
    have c4' := kW.cell
    exact bodyPost_ret (v := .tuple #[.agg #[.int .u64 y0, .int .i64 y1, .int .i64 y2, .int .i64 y3, .int .i64 y4, .int .i64 y5, .int .i64 y6, .int .i64 y7, .int .i64 y8, .int .i64 y9, .int .i64 y10], .bool false, .bool false]) (by simp [results, Try.results6, go_sem, c4']) rfl ⟨HE.out, hW⟩
  · obtain ⟨L, hok, hLp, hLL⟩ := hL rfl
    obtain ⟨rfl, rfl, rfl, rfl, rfl, rfl, rfl, rfl, rfl, rfl, rfl⟩ := layCs_inj hLL
    have HT := Lib.hid (htt _ rfl)
    have HO := Lib.hid hok
    have HLp := Lib.hid hLp
    have na := hok.a
    have nb := hok.b
    clear hL htt hok hLp hLL
    obtain ⟨c1, f1⟩ := k1.cells'
    obtain ⟨c2, f2⟩ := k2.cells'
    by_cases z1 : 64 < L.n
    · have HE := Lib.hid (show Right27Post p (.returned (.tuple #[.agg #[.int .u64 (L.p : Int), .int .i64 (L.block : Int), .int .i64 (L.queries : Int), .int .i64 (L.k : Int), .int .i64 (L.n : Int), .int .i64 (L.secret : Int), .int .i64 (L.rows : Int), .int .i64 (L.a : Int), .int .i64 (L.b : Int), .int .i64 (L.b : Int), .int .i64 (L.b : Int)], .bool false, .bool false])) from ⟨_, _, _, _, _, _, _, _, _, _, _, _, _, rfl, fun h => by cases h⟩)
      have d1 : decide ((64 : Int) < (L.n : Int)) = true := decide_eq_true (by omega)
      have d2 : decide (64 < L.n) = true := decide_eq_true z1
      go_wp2_with fail
      have kW0 := set11_blk k2 (.int .u64 (L.p : Int)) (.int .i64 (L.block : Int)) (.int .i64 (L.queries : Int)) (.int .i64 (L.k : Int)) (.int .i64 (L.n : Int)) (.int .i64 (L.secret : Int)) (.int .i64 (L.rows : Int)) (.int .i64 (L.a : Int)) (.int .i64 (L.b : Int)) (.int .i64 (L.b : Int)) (.int .i64 (L.b : Int))
      have hW0 := set11_below (g := w.heap.size + 1) hbw (by omega) (.int .u64 (L.p : Int)) (.int .i64 (L.block : Int)) (.int .i64 (L.queries : Int)) (.int .i64 (L.k : Int)) (.int .i64 (L.n : Int)) (.int .i64 (L.secret : Int)) (.int .i64 (L.rows : Int)) (.int .i64 (L.a : Int)) (.int .i64 (L.b : Int)) (.int .i64 (L.b : Int)) (.int .i64 (L.b : Int))
      revert kW0 hW0
      generalize ((((((((((World.setCell _ _ _).setCell _ _).setCell _ _).setCell _ _).setCell _ _).setCell _ _).setCell _ _).setCell _ _).setCell _ _).setCell _ _).setCell _ _ = wf
      intro kW0 hW0
      have kW := kW0.alloc (.cells #[.int .u64 (L.p : Int), .int .i64 (L.block : Int), .int .i64 (L.queries : Int), .int .i64 (L.k : Int), .int .i64 (L.n : Int), .int .i64 (L.secret : Int), .int .i64 (L.rows : Int), .int .i64 (L.a : Int), .int .i64 (L.b : Int), .int .i64 (L.b : Int), .int .i64 (L.b : Int)] 38)
      have hW := hW0.alloc hW0.size (.cells #[.int .u64 (L.p : Int), .int .i64 (L.block : Int), .int .i64 (L.queries : Int), .int .i64 (L.k : Int), .int .i64 (L.n : Int), .int .i64 (L.secret : Int), .int .i64 (L.rows : Int), .int .i64 (L.a : Int), .int .i64 (L.b : Int), .int .i64 (L.b : Int), .int .i64 (L.b : Int)] 38)
      have c4' := kW.cell
      exact bodyPost_ret (v := .tuple #[.agg #[.int .u64 (L.p : Int), .int .i64 (L.block : Int), .int .i64 (L.queries : Int), .int .i64 (L.k : Int), .int .i64 (L.n : Int), .int .i64 (L.secret : Int), .int .i64 (L.rows : Int), .int .i64 (L.a : Int), .int .i64 (L.b : Int), .int .i64 (L.b : Int), .int .i64 (L.b : Int)], .bool false, .bool false]) (by simp [results, Try.results6, go_sem, c4']) rfl ⟨HE.out, hW⟩
    · have d1 : decide ((64 : Int) < (L.n : Int)) = false := decide_eq_false (by omega)
      have d2 : decide (64 < L.n) = false := decide_eq_false z1
      have HTo := Lib.hid (fun w => rTotal_any L.p L.block L.queries L.k L.n L.secret L.rows L.a L.b L.b L.b w na nb nb nb)
      revert HTo
      generalize hT : L.a + L.b + L.b + L.b = T
      intro HTo
      by_cases z2 : 40 < T
      · have HE := Lib.hid (show Right27Post p (.returned (.tuple #[.agg #[.int .u64 (L.p : Int), .int .i64 (L.block : Int), .int .i64 (L.queries : Int), .int .i64 (L.k : Int), .int .i64 (L.n : Int), .int .i64 (L.secret : Int), .int .i64 (L.rows : Int), .int .i64 (L.a : Int), .int .i64 (L.b : Int), .int .i64 (L.b : Int), .int .i64 (L.b : Int)], .bool false, .bool false])) from ⟨_, _, _, _, _, _, _, _, _, _, _, _, _, rfl, fun h => by cases h⟩)
        have d3 : decide ((40 : Int) < (T : Int)) = true := decide_eq_true (by omega)
        have d4 : decide (40 < T) = true := decide_eq_true z2
        have HTT := Lib.hid hT
        clear hT
        go_wp2_with fail
        refine (HTo.out _).mono ?_
        rintro e w3 ⟨rfl, hb3⟩
        have k2' := (k2.alloc (.cells #[.int .u64 (L.p : Int), .int .i64 (L.block : Int), .int .i64 (L.queries : Int), .int .i64 (L.k : Int), .int .i64 (L.n : Int), .int .i64 (L.secret : Int), .int .i64 (L.rows : Int), .int .i64 (L.a : Int), .int .i64 (L.b : Int), .int .i64 (L.b : Int), .int .i64 (L.b : Int)] 38)).below hb3 (by simp; omega)
        have k1' := (k1.alloc (.cells #[.int .u64 (L.p : Int), .int .i64 (L.block : Int), .int .i64 (L.queries : Int), .int .i64 (L.k : Int), .int .i64 (L.n : Int), .int .i64 (L.secret : Int), .int .i64 (L.rows : Int), .int .i64 (L.a : Int), .int .i64 (L.b : Int), .int .i64 (L.b : Int), .int .i64 (L.b : Int)] 38)).below hb3 (by simp; omega)
        have k5' := (Blk.new w1 38 #[.int .u64 (L.p : Int), .int .i64 (L.block : Int), .int .i64 (L.queries : Int), .int .i64 (L.k : Int), .int .i64 (L.n : Int), .int .i64 (L.secret : Int), .int .i64 (L.rows : Int), .int .i64 (L.a : Int), .int .i64 (L.b : Int), .int .i64 (L.b : Int), .int .i64 (L.b : Int)]).below hb3 (by simp)
        have hbw' := below_chain (hbw.alloc hbw.size _) hb3
        have l3 : w.heap.size + 1 < w3.heap.size := k2'.lt
        have l4 : w.heap.size < w3.heap.size := by omega
        have l5 : w1.heap.size < w3.heap.size := k5'.lt
        have n1 : w1.heap.size ≠ w.heap.size + 1 := by omega
        clear c1 f1 c2 f2 k1 k2 hbw hb3
        obtain ⟨c1, f1⟩ := k1'.cells'
        obtain ⟨c2, f2⟩ := k2'.cells'
        obtain ⟨c5, f5⟩ := k5'.cells'
        go_wp2
        have kW := set11_blk k2' (.int .u64 (L.p : Int)) (.int .i64 (L.block : Int)) (.int .i64 (L.queries : Int)) (.int .i64 (L.k : Int)) (.int .i64 (L.n : Int)) (.int .i64 (L.secret : Int)) (.int .i64 (L.rows : Int)) (.int .i64 (L.a : Int)) (.int .i64 (L.b : Int)) (.int .i64 (L.b : Int)) (.int .i64 (L.b : Int))
        have hW := set11_below (g := w.heap.size + 1) hbw' (by omega) (.int .u64 (L.p : Int)) (.int .i64 (L.block : Int)) (.int .i64 (L.queries : Int)) (.int .i64 (L.k : Int)) (.int .i64 (L.n : Int)) (.int .i64 (L.secret : Int)) (.int .i64 (L.rows : Int)) (.int .i64 (L.a : Int)) (.int .i64 (L.b : Int)) (.int .i64 (L.b : Int)) (.int .i64 (L.b : Int))
        revert kW hW
        generalize ((((((((((World.setCell _ _ _).setCell _ _).setCell _ _).setCell _ _).setCell _ _).setCell _ _).setCell _ _).setCell _ _).setCell _ _).setCell _ _).setCell _ _ = wf
        intro kW hW
        have c4' := kW.cell
        exact bodyPost_ret (v := .tuple #[.agg #[.int .u64 (L.p : Int), .int .i64 (L.block : Int), .int .i64 (L.queries : Int), .int .i64 (L.k : Int), .int .i64 (L.n : Int), .int .i64 (L.secret : Int), .int .i64 (L.rows : Int), .int .i64 (L.a : Int), .int .i64 (L.b : Int), .int .i64 (L.b : Int), .int .i64 (L.b : Int)], .bool false, .bool false]) (by simp [results, Try.results6, go_sem, c4']) rfl ⟨HE.out, hW⟩
      · have HE := Lib.hid (show ∀ s, Right27Post p (.returned (.tuple #[.agg #[.int .u64 (L.p : Int), .int .i64 (L.block : Int), .int .i64 (L.queries : Int), .int .i64 (L.k : Int), .int .i64 (L.n : Int), .int .i64 (L.secret : Int), .int .i64 (L.rows : Int), .int .i64 (L.a : Int), .int .i64 (L.b : Int), .int .i64 (L.b : Int), .int .i64 (L.b : Int)], .bool true, .bool s])) from fun s => ⟨_, _, _, _, _, _, _, _, _, _, _, _, _, rfl, fun _ => ⟨L, HO.out, HLp.out, by omega, by omega, rfl⟩⟩)
        have d3 : decide ((40 : Int) < (T : Int)) = false := decide_eq_false (by omega)
        have d4 : decide (40 < T) = false := decide_eq_false z2
        have HTT := Lib.hid hT
        clear hT
        go_wp2_with fail
        refine (HTo.out _).mono ?_
        rintro e w3 ⟨rfl, hb3⟩
        have k2' := (k2.alloc (.cells #[.int .u64 (L.p : Int), .int .i64 (L.block : Int), .int .i64 (L.queries : Int), .int .i64 (L.k : Int), .int .i64 (L.n : Int), .int .i64 (L.secret : Int), .int .i64 (L.rows : Int), .int .i64 (L.a : Int), .int .i64 (L.b : Int), .int .i64 (L.b : Int), .int .i64 (L.b : Int)] 38)).below hb3 (by simp; omega)
        have k1' := (k1.alloc (.cells #[.int .u64 (L.p : Int), .int .i64 (L.block : Int), .int .i64 (L.queries : Int), .int .i64 (L.k : Int), .int .i64 (L.n : Int), .int .i64 (L.secret : Int), .int .i64 (L.rows : Int), .int .i64 (L.a : Int), .int .i64 (L.b : Int), .int .i64 (L.b : Int), .int .i64 (L.b : Int)] 38)).below hb3 (by simp; omega)
        have k5' := (Blk.new w1 38 #[.int .u64 (L.p : Int), .int .i64 (L.block : Int), .int .i64 (L.queries : Int), .int .i64 (L.k : Int), .int .i64 (L.n : Int), .int .i64 (L.secret : Int), .int .i64 (L.rows : Int), .int .i64 (L.a : Int), .int .i64 (L.b : Int), .int .i64 (L.b : Int), .int .i64 (L.b : Int)]).below hb3 (by simp)
        have hbw' := below_chain (hbw.alloc hbw.size _) hb3
        have l3 : w.heap.size + 1 < w3.heap.size := k2'.lt
        have l4 : w.heap.size < w3.heap.size := by omega
        have l5 : w1.heap.size < w3.heap.size := k5'.lt
        have n1 : w1.heap.size ≠ w.heap.size + 1 := by omega
        clear c1 f1 c2 f2 k1 k2 hbw hb3
        obtain ⟨c1, f1⟩ := k1'.cells'
        obtain ⟨c2, f2⟩ := k2'.cells'
        obtain ⟨c5, f5⟩ := k5'.cells'
        go_wp2
        refine wpO_begin (Only (w.heap.size+1)) [7, 8] [0, 1, 2, 3, 4, 5, 6, 7, 8, 9, 10] (by kernel_rfl) (by kernel_rfl) ?_
        refine wpO_startK (only_moves (w.heap.size+1)) ?_
        intro Wc HWc hacc
        repeat (first | (refine wpO_skip (only_moves (w.heap.size+1)) rfl rfl (fun _ _ _ h => h) ?_ ; simp only [Act.put, List.setIfInBounds_toArray, List.set_cons_zero, List.set_cons_succ]) | (refine wpO_light (v := ?_) (only_moves (w.heap.size+1)) rfl rfl (fun _ _ _ h => h) ?_ ?_ ; rotate_left ; (· (intro w' hR ; (first | have hcells := only_cellsD ((only_moves (w.heap.size+1)).trans _ _ _ hacc hR) | skip) ; go_simp ; try with_reducible rfl)) ; simp only [Act.put, List.setIfInBounds_toArray, List.set_cons_zero, List.set_cons_succ]))
        have hwc : Below w.heap.size w Wc := by rw [HWc.out]; exact hbw'.drew
        have kwc := k2'.drew
        rw [← HWc.out] at kwc
        refine wpO_call (only_moves (w.heap.size+1)) rfl rfl rfl (fun _ => by go_simp <;> rfl) ((HS.out HT.out.1 HT.out.2 _ hwc).mono ?_)
        rintro e w4 ⟨⟨sb, rfl⟩, hb4⟩
        refine ⟨_, rfl, only_of_later hb4, ?_⟩
        replace hacc := (only_moves (w.heap.size+1)).trans _ _ _ hacc (only_of_later hb4)
        simp only [Act.put, List.setIfInBounds_toArray, List.set_cons_zero, List.set_cons_succ]
        replace kwc := kwc.below hb4 kwc.lt
        replace hwc := below_chain hwc hb4
        clear c1 f1 c2 f2 c5 f5 k1' k2' k5'
        obtain ⟨c2, f2⟩ := kwc.cells'
        refine wpO_heavy (only_moves (w.heap.size+1)) rfl rfl rfl ?_
        go_simp
        refine ⟨set11_only _ (.int .u64 (L.p : Int)) (.int .i64 (L.block : Int)) (.int .i64 (L.queries : Int)) (.int .i64 (L.k : Int)) (.int .i64 (L.n : Int)) (.int .i64 (L.secret : Int)) (.int .i64 (L.rows : Int)) (.int .i64 (L.a : Int)) (.int .i64 (L.b : Int)) (.int .i64 (L.b : Int)) (.int .i64 (L.b : Int)), ?_⟩
        have kW := set11_blk kwc (.int .u64 (L.p : Int)) (.int .i64 (L.block : Int)) (.int .i64 (L.queries : Int)) (.int .i64 (L.k : Int)) (.int .i64 (L.n : Int)) (.int .i64 (L.secret : Int)) (.int .i64 (L.rows : Int)) (.int .i64 (L.a : Int)) (.int .i64 (L.b : Int)) (.int .i64 (L.b : Int)) (.int .i64 (L.b : Int))
        have hW := set11_below (g := w.heap.size + 1) hwc (by omega) (.int .u64 (L.p : Int)) (.int .i64 (L.block : Int)) (.int .i64 (L.queries : Int)) (.int .i64 (L.k : Int)) (.int .i64 (L.n : Int)) (.int .i64 (L.secret : Int)) (.int .i64 (L.rows : Int)) (.int .i64 (L.a : Int)) (.int .i64 (L.b : Int)) (.int .i64 (L.b : Int)) (.int .i64 (L.b : Int))
        clear hacc HWc c2 f2
        revert kW hW
        generalize ((((((((((World.setCell _ _ _).setCell _ _).setCell _ _).setCell _ _).setCell _ _).setCell _ _).setCell _ _).setCell _ _).setCell _ _).setCell _ _).setCell _ _ = wf
        intro kW hW
        have hacc := (only_moves (w.heap.size + 1)).refl wf
        repeat (first | (refine wpO_skip (only_moves (w.heap.size+1)) rfl rfl (fun _ _ _ h => h) ?_ ; simp only [Act.put, List.setIfInBounds_toArray, List.set_cons_zero, List.set_cons_succ]) | (refine wpO_light (v := ?_) (only_moves (w.heap.size+1)) rfl rfl (fun _ _ _ h => h) ?_ ?_ ; rotate_left ; (· (intro w' hR ; (first | have hcells := only_cellsD ((only_moves (w.heap.size+1)).trans _ _ _ hacc hR) | skip) ; go_simp ; try with_reducible rfl)) ; simp only [Act.put, List.setIfInBounds_toArray, List.set_cons_zero, List.set_cons_succ]))
        refine wpO_done ?_
        go_wp2
        have c4' := kW.cell
        exact bodyPost_ret (v := .tuple #[.agg #[.int .u64 (L.p : Int), .int .i64 (L.block : Int), .int .i64 (L.queries : Int), .int .i64 (L.k : Int), .int .i64 (L.n : Int), .int .i64 (L.secret : Int), .int .i64 (L.rows : Int), .int .i64 (L.a : Int), .int .i64 (L.b : Int), .int .i64 (L.b : Int), .int .i64 (L.b : Int)], .bool true, .bool sb]) (by simp [results, Try.results6, go_sem, c4']) rfl ⟨HE.out sb, hW⟩
end Go.Proofs.Ytkaecidnkkcbaaa

