/- A part of the proof: RefB. No condition. -/
import Derived.BigQuiet
import Derived.Deep.QuietTactic
import Derived.Test.YtakjnmojigechaaGreatJA4
import Derived.Test.YtakjnmojigechaaGreatJA5

namespace Go.Proofs.YtakjnmojigechaaGreat
open Go.RowKit
theorem add_none (b q k : Nat) : (⟨b, q, none⟩ : Addr).add k = ⟨b, q + k, none⟩ := by
  unfold Addr.add
  split
  · subst_vars; rfl
  · rfl
theorem RdL.base {α : Type} {R : World → List Value → α → Prop} {sz : Nat} {w : World} {A : Option Addr} {l : List α} (h : RdL w sz R A l) (hsz : 0 < sz) (hl : 0 < l.length) : ∃ b q, A = some ⟨b, q, none⟩ := by
  obtain ⟨a, b, q, cs, rfl, hq, -⟩ := h.at_ hsz hl
  refine ⟨b, q, ?_⟩
  rw [← hq]
  simp [Addr.add]
theorem RdL.get {α : Type} {R : World → List Value → α → Prop} {sz : Nat} {w : World} {b q : Nat} {l : List α} (h : RdL w sz R (some ⟨b, q, none⟩) l) {i : Nat} (hi : i < l.length) :
    ∃ cs, cs.length = sz ∧ (∀ j, j < sz → w.cell? ⟨b, q + i * sz + j, none⟩ = cs[j]?) ∧ R w cs l[i] := by
  obtain ⟨a, cs, e, hl, hc, hr⟩ := h i hi
  injection e with e
  subst e
  refine ⟨cs, hl, fun j hj => ?_, hr⟩
  rw [← hc j hj, add_none, Nat.add_assoc]
theorem run_index_arr {P : Program} {w : World} {t e : TypeId} {n : Nat} {cs : Array Value} {v : Value} {i : Nat} (h : P.underlying t = some (.array n e)) (hs : ((isAgg e).run P w) = .ok false w) (hz : ((sizeOf e).run P w) = .ok 1 w) (hi : i < n) (hv : cs[i]? = some v) :
    (Instr.index t (.agg cs) (.int .i64 (i : Int))).run P w = .ok v w := by
  have h1 : (0 : Int) ≤ (i : Int) ∧ (i : Int) < (n : Int) := by omega
  simp [Instr.index, run_underlying h, asIntOf, h1, hi, hz, hs, hv, part, Result.andThen]
theorem agg_u64 {w : World} : ((isAgg 22).run Tryz.prog w) = .ok false w := by simp [isAgg, run_underlying Tryz.underlying22]
theorem size_u64 {w : World} : ((sizeOf 22).run Tryz.prog w) = .ok 1 w := by
  obtain ⟨i0, hi, hz0, hz1, hz2⟩ := info_parts info_u64
  simp [sizeOf, typeInfo, hi, hz1]
theorem idx_w3_0 {w : World} {a b c : Value} : (Instr.index 166 (.agg #[a, b, c]) (.int .i64 0)).run Tryz.prog w = .ok a w :=
  run_index_arr (i := 0) Tryz.underlying166 agg_u64 size_u64 (by omega) rfl
set_option maxRecDepth 100000 in
set_option maxHeartbeats 400000 in
theorem rValidP_any (p : Nat) (w : World) (hp : p < 18446744073709551616) :
    Calls Tryz.prog 63 #[.int .u64 p] w fun e w' => e = .returned (.bool (okP p)) ∧ Below w.heap.size w w' := by
  have HO := Lib.hid (rowOf_ok p)
  have HR := Lib.hid (row_any p w hp)
  unfold rowVal at HR
  revert HO HR
  generalize (rowOf p).1 = a
  generalize (rowOf p).2.1 = b
  generalize (rowOf p).2.2 = c
  intro HO HR
  go_enter Tryz.func63, Tryz.ntmps63
  go_wp2_with (go_at_call 123; refine HR.out.mono ?_; rintro e w1 ⟨rfl, hb⟩)
  rw [idx_w3_0, Result.andThen, Oper.upon_value]
  go_wp2
  go_ret
  exact ⟨by rw [← HO.out]; rfl, hb⟩
end Go.Proofs.YtakjnmojigechaaGreat
