/- A part of the proof: OrdK. No condition. -/
import Derived.Test.YtakjnmojigechaaGreatJA23

namespace Go.Proofs.YtakjnmojigechaaGreat
open Go.RowKit
theorem wpO_startK {P : Program} {l : List Oper} {hs : List Nat} {Q : Exit → Act → World → Prop} {R : World → World → Prop} {listed : Array Bool} {a : Act} {w : World} (M : Moves R) {order : List Nat} (h : ∀ W, Hid (W = w) → R w W → wpO P l hs Q R order listed a W) : wpO P l hs Q R order listed a w := h w rfl (M.refl w)
theorem set11_only {g : Nat} (w : World) (x0 x1 x2 x3 x4 x5 x6 x7 x8 x9 x10 : Value) :
    Only g w (((((((((((w.setCell ⟨g, 0, none⟩ x0).setCell ⟨g, 1, none⟩ x1).setCell ⟨g, 2, none⟩ x2).setCell ⟨g, 3, none⟩ x3).setCell ⟨g, 4, none⟩ x4).setCell ⟨g, 5, none⟩ x5).setCell ⟨g, 6, none⟩ x6).setCell ⟨g, 7, none⟩ x7).setCell ⟨g, 8, none⟩ x8).setCell ⟨g, 9, none⟩ x9).setCell ⟨g, 10, none⟩ x10) := by
  unfold Only
  iterate 11 refine grown_setCell' ?_ (.inl rfl) _
  exact grown_refl' w _
set_option maxRecDepth 100000 in
theorem rTotal_any (y0 y1 y2 y3 y4 y5 y6 : Int) (a b c d : Nat) (w : World) (ha : a ≤ 100000) (hb : b ≤ 100000) (hc : c ≤ 100000) (hd : d ≤ 100000) :
    Calls Tryz.prog 15 #[.agg #[.int .u64 y0, .int .i64 y1, .int .i64 y2, .int .i64 y3, .int .i64 y4, .int .i64 y5, .int .i64 y6, .int .i64 (a : Int), .int .i64 (b : Int), .int .i64 (c : Int), .int .i64 (d : Int)]] w fun e w' => e = .returned (.int .i64 ((a + b + c + d : Nat) : Int)) ∧ Below w.heap.size w w' := by
  have i1 : (a : Int) ≤ 100000 := by omega
  have i2 : (b : Int) ≤ 100000 := by omega
  have i3 : (c : Int) ≤ 100000 := by omega
  have i4 : (d : Int) ≤ 100000 := by omega
  go_enter Tryz.func15, Tryz.ntmps15
  go_wp2_with fail
  go_ret
  exact ⟨by simp, (Below.refl _ _).alloc (Nat.le_refl _) _⟩
set_option maxRecDepth 100000 in
theorem pTotal_any (y0 y1 y2 y3 y4 y5 y6 : Int) (a b c d : Nat) (w : World) (ha : a ≤ 100000) (hb : b ≤ 100000) (hc : c ≤ 100000) (hd : d ≤ 100000) :
    Calls Tryz.prog 33 #[.agg #[.int .u64 y0, .int .i64 y1, .int .i64 y2, .int .i64 y3, .int .i64 y4, .int .i64 y5, .int .i64 y6, .int .i64 (a : Int), .int .i64 (b : Int), .int .i64 (c : Int), .int .i64 (d : Int)]] w fun e w' => e = .returned (.int .i64 ((a + b + c + d : Nat) : Int)) ∧ Below w.heap.size w w' := by
  have i1 : (a : Int) ≤ 100000 := by omega
  have i2 : (b : Int) ≤ 100000 := by omega
  have i3 : (c : Int) ≤ 100000 := by omega
  have i4 : (d : Int) ≤ 100000 := by omega
  go_enter Tryz.func33, Tryz.ntmps33
  go_wp2_with fail
  go_ret
  exact ⟨by simp, (Below.refl _ _).alloc (Nat.le_refl _) _⟩
end Go.Proofs.YtakjnmojigechaaGreat
