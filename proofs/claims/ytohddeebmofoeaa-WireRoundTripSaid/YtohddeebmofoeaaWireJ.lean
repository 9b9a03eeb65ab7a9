/-
  WireFails, WireIsolated: the walks of the laws.
-/
import Derived.Test.YtohddeebmofoeaaWireI
namespace Go.Proofs.Ytohddeebmofoeaa
open Go.RowKit

set_option maxHeartbeats 400000 in
theorem wireFails_out (A C : Option Addr) (n c m d : Nat) (w : World) (h : 500 < n ∨ 20 < m) (hn : n ≤ 9223372036854775807) (hm : m ≤ 9223372036854775807) :
    Calls Try.prog 7 #[.slice A n c, .slice C m d] w fun e w' => e = .returned (.bool true) ∧ Below w.heap.size w w' := by
  by_cases h0 : 500 < n
  · have hd0 : decide ((500 : Int) < (n : Int)) = true := by simp; omega
    go_enter Try.func7, Try.ntmps7
    go_wp2_with fail
    refine (awake_any _).mono ?_
    rintro e w1 ⟨rfl, hb1⟩
    go_wp2_with fail
    refine (awake_any _).mono ?_
    rintro e w2 ⟨rfl, hb2⟩
    go_wp2
    go_ret
    exact ⟨rfl, below_chain hb1 hb2⟩
  · have hd0 : decide ((500 : Int) < (n : Int)) = false := by simp; omega
    have hd1 : decide ((20 : Int) < (m : Int)) = true := by simp; omega
    go_enter Try.func7, Try.ntmps7
    go_wp2_with fail
    refine (awake_any _).mono ?_
    rintro e w1 ⟨rfl, hb1⟩
    go_wp2_with fail
    refine (awake_any _).mono ?_
    rintro e w2 ⟨rfl, hb2⟩
    go_wp2
    go_ret
    exact ⟨rfl, below_chain hb1 hb2⟩

theorem wireFails_walk (W : World) (A : Option Addr) (n c : Nat) (f : Fits Try.prog W 22 (Value.slice A n c).cells.toList) (C : Option Addr) (m d : Nat) (f1 : Fits Try.prog W 40 (Value.slice C m d).cells.toList) :
    Calls Try.prog 7 #[.slice A n c, .slice C m d] W fun e W' => e = .returned (.bool true) ∧ Below W.heap.size W W' := by
  obtain ⟨l, h1, h2, h3, h4⟩ := arg_bytes f
  obtain ⟨os, h5, h6, h7⟩ := arg_ops f1
  by_cases h : 500 < n ∨ 20 < m
  · exact wireFails_out A C n c m d W h (by omega) (by omega)
  · exact wireFails_in A C n c m d l os W h3 h4 h7 h5 (by omega) (by omega)

set_option maxHeartbeats 400000 in
theorem wireIsolated_out (A C : Option Addr) (n c m d : Nat) (w : World) (h : 200 < n ∨ 200 < m) (hn : n ≤ 9223372036854775807) (hm : m ≤ 9223372036854775807) :
    Calls Try.prog 5 #[.slice A n c, .slice C m d] w fun e w' => e = .returned (.bool true) ∧ Below w.heap.size w w' := by
  by_cases h0 : 200 < n
  · have hd0 : decide ((200 : Int) < (n : Int)) = true := by simp; omega
    go_enter Try.func5, Try.ntmps5
    go_wp2_with fail
    refine (awake_any _).mono ?_
    rintro e w1 ⟨rfl, hb1⟩
    go_wp2_with fail
    refine (awake_any _).mono ?_
    rintro e w2 ⟨rfl, hb2⟩
    go_wp2
    go_ret
    exact ⟨rfl, below_chain hb1 hb2⟩
  · have hd0 : decide ((200 : Int) < (n : Int)) = false := by simp; omega
    have hd1 : decide ((200 : Int) < (m : Int)) = true := by simp; omega
    go_enter Try.func5, Try.ntmps5
    go_wp2_with fail
    refine (awake_any _).mono ?_
    rintro e w1 ⟨rfl, hb1⟩
    go_wp2_with fail
    refine (awake_any _).mono ?_
    rintro e w2 ⟨rfl, hb2⟩
    go_wp2
    go_ret
    exact ⟨rfl, below_chain hb1 hb2⟩

end Go.Proofs.Ytohddeebmofoeaa
