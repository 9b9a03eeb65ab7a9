/-
  ProverValid: its arguments opened; the walk of the law.
-/
import Derived.Test.YtkaecidnkkcbaaaPrG
namespace Go.Proofs.Ytkaecidnkkcbaaa
open Go.RowKit

theorem cellsOf_case24 : Try.prog.cellsOf 30 = 8 := by kernel_rfl
theorem cellsOf_case27 : Try.prog.cellsOf 32 = 11 := by kernel_rfl
theorem cellsOf_params : Try.prog.cellsOf 27 = 3 := by kernel_rfl
theorem cellsOf_proof : Try.prog.cellsOf 35 = 7 := by kernel_rfl
theorem cellsOf_lists : Try.prog.cellsOf 33 = 1 := by kernel_rfl

/-- What a case reads as. -/
structure CaseIn (w : World) (p : Nat) (pub vars : Int) (A B : Option Addr) (n c m d : Nat) (rows : List RowR) (ws : List Nat) : Prop where
  p : p < 18446744073709551616
  rows : RSl 3 RRow w [.slice A n c] rows
  ws : RWd w [.slice B m d] ws
theorem fits_case24 {w : World} {cs : List Value} (hl : cs.length = 8) (h : Fits Try.prog w 30 cs) : ∃ (p : Nat) (pub vars : Int) (A B : Option Addr) (n c m d : Nat) (rows : List RowR) (ws : List Nat) (bl bw qs : Int), cs = (caseCs p pub vars (.slice A n c) bl bw qs (.slice B m d)).toList ∧ CaseIn w p pub vars A B n c m d rows ws := by
  match cs, hl with
  | [x0, x1, x2, x3, x4, x5, x6, x7], _ =>
    obtain ⟨t, y, ht, h1, h2, h3, h4⟩ := fits_RTab rfl (fits_field (i := 0) Try.underlying30 rfl rfl cellsOf_tab h)
    have hx := fits_field (i := 1) Try.underlying30 rfl rfl cellsOf_params h
    obtain ⟨a, ha, -⟩ := fits_i64 Try.underlying3 (fits_field (i := 0) Try.underlying27 rfl rfl cellsOf_int hx)
    obtain ⟨b, hb, -⟩ := fits_i64 Try.underlying3 (fits_field (i := 1) Try.underlying27 rfl rfl cellsOf_int hx)
    obtain ⟨e, he, -⟩ := fits_i64 Try.underlying3 (fits_field (i := 2) Try.underlying27 rfl rfl cellsOf_int hx)
    obtain ⟨ws, hw⟩ := fits_RWd Try.underlying28 Try.underlying22 cellsOf_u64 (fits_field (i := 2) Try.underlying30 rfl rfl cellsOf_words h)
    simp at ht ha hb he hw
    obtain ⟨rfl, rfl, rfl, rfl⟩ := ht
    subst ha hb he
    obtain ⟨A, n, c, rfl⟩ := RSl.slc h4
    have hw2 := hw
    obtain ⟨B, m, d, he, -⟩ := hw
    simp at he
    subst he
    exact ⟨t.p, t.pub, t.vars, A, B, n, c, m, d, t.rows, ws, a, b, e, rfl, h1, h4, hw2⟩
theorem fits_case27 {w : World} {cs : List Value} (hl : cs.length = 11) (h : Fits Try.prog w 32 cs) : ∃ (p : Nat) (pub vars : Int) (A B : Option Addr) (n c m d : Nat) (rows : List RowR) (ws : List Nat) (bl bw qs coin seed : Int) (real : Bool),
    cs = [.int .u64 (p : Int), .int .i64 pub, .int .i64 vars, .slice A n c, .int .i64 bl, .int .i64 bw, .int .i64 qs, .slice B m d, .int .u64 coin, .bool real, .int .u64 seed] ∧ CaseIn w p pub vars A B n c m d rows ws := by
  match cs, hl with
  | [x0, x1, x2, x3, x4, x5, x6, x7, x8, x9, x10], _ =>
    obtain ⟨p, pub, vars, A, B, n, c, m, d, rows, ws, bl, bw, qs, hc, hin⟩ := fits_case24 rfl (fits_field (i := 0) Try.underlying32 rfl rfl cellsOf_case24 h)
    obtain ⟨a, ha, -⟩ := fits_u64 Try.underlying22 (fits_field (i := 1) Try.underlying32 rfl rfl cellsOf_u64 h)
    obtain ⟨b, hb⟩ := fits_bool Try.underlying4 (fits_field (i := 2) Try.underlying32 rfl rfl cellsOf_bool h)
    obtain ⟨e, he, -⟩ := fits_u64 Try.underlying22 (fits_field (i := 3) Try.underlying32 rfl rfl cellsOf_u64 h)
    simp [caseCs] at hc ha hb he
    obtain ⟨rfl, rfl, rfl, rfl, rfl, rfl, rfl, rfl⟩ := hc
    subst ha hb he
    exact ⟨p, pub, vars, A, B, n, c, m, d, rows, ws, bl, bw, qs, a, e, b, rfl, hin⟩
theorem fits_RLists {w : World} {cs : List Value} (h : Fits Try.prog w 33 cs) : ∃ l, RSl 1 RWd w cs l :=
  fits_RSl 1 (R := RWd) Try.underlying33 cellsOf_words (fun _ _ hf => fits_RWd Try.underlying28 Try.underlying22 cellsOf_u64 hf) h
theorem RWd.slc {w : World} {v : Value} {l : List Nat} (h : RWd w [v] l) : slc v := by
  obtain ⟨A, n, c, e, -⟩ := h
  simp at e
  exact ⟨A, n, c, e⟩
theorem fits_proof {w : World} {cs : List Value} (hl : cs.length = 7) (h : Fits Try.prog w 35 cs) : ∃ P S, cs = (prCs P S).toList ∧ PrIn w P S := by
  match cs, hl with
  | [x0, x1, x2, x3, x4, x5, x6], _ =>
    obtain ⟨a, ha, hal⟩ := fits_u64 Try.underlying22 (fits_field (i := 0) Try.underlying35 rfl rfl cellsOf_u64 h)
    obtain ⟨l1, h1⟩ := fits_RWd Try.underlying28 Try.underlying22 cellsOf_u64 (fits_field (i := 1) Try.underlying35 rfl rfl cellsOf_words h)
    obtain ⟨l2, h2⟩ := fits_RWd Try.underlying28 Try.underlying22 cellsOf_u64 (fits_field (i := 2) Try.underlying35 rfl rfl cellsOf_words h)
    obtain ⟨l3, h3⟩ := fits_RWd Try.underlying28 Try.underlying22 cellsOf_u64 (fits_field (i := 3) Try.underlying35 rfl rfl cellsOf_words h)
    obtain ⟨l4, h4⟩ := fits_RLists (fits_field (i := 4) Try.underlying35 rfl rfl cellsOf_lists h)
    obtain ⟨l5, h5⟩ := fits_RWd Try.underlying28 Try.underlying22 cellsOf_u64 (fits_field (i := 5) Try.underlying35 rfl rfl cellsOf_words h)
    obtain ⟨l6, h6⟩ := fits_RLists (fits_field (i := 6) Try.underlying35 rfl rfl cellsOf_lists h)
    simp at ha h1 h2 h3 h4 h5 h6
    subst ha
    obtain ⟨A1, n1, c1, rfl⟩ := RWd.slc h1
    obtain ⟨A2, n2, c2, rfl⟩ := RWd.slc h2
    obtain ⟨A3, n3, c3, rfl⟩ := RWd.slc h3
    obtain ⟨A4, n4, c4, rfl⟩ := RSl.slc h4
    obtain ⟨A5, n5, c5, rfl⟩ := RWd.slc h5
    obtain ⟨A6, n6, c6, rfl⟩ := RSl.slc h6
    exact ⟨⟨a, l1, l2, l3, l4, l5, l6⟩, ⟨A1, n1, c1, A2, n2, c2, A3, n3, c3, A4, n4, c4, A5, n5, c5, A6, n6, c6⟩, rfl, hal, h1, h2, h3, h4, h5, h6⟩

/-- The arguments of the laws over a case and a proof. -/
theorem open_cp {w : World} {cs0 cs1 : Array Value} (f0 : Fits Try.prog w 32 (Value.agg cs0).cells.toList) (f1 : Fits Try.prog w 35 (Value.agg cs1).cells.toList) :
    ∃ (p : Nat) (pub vars : Int) (A B : Option Addr) (n c m d : Nat) (rows : List RowR) (ws : List Nat) (bl bw qs coin seed : Int) (real : Bool) (P : ProofR) (S : PS),
      cs0 = #[.int .u64 (p : Int), .int .i64 pub, .int .i64 vars, .slice A n c, .int .i64 bl, .int .i64 bw, .int .i64 qs, .slice B m d, .int .u64 coin, .bool real, .int .u64 seed] ∧ CaseIn w p pub vars A B n c m d rows ws ∧ cs1 = prCs P S ∧ PrIn w P S := by
  have e0 : (Value.agg cs0).cells = cs0 := rfl
  have e1 : (Value.agg cs1).cells = cs1 := rfl
  rw [e0] at f0
  rw [e1] at f1
  have l0 := (fits_struct Try.underlying32 f0).1
  have l1 := (fits_struct Try.underlying35 f1).1
  rw [cellsOf_case27] at l0
  rw [cellsOf_proof] at l1
  obtain ⟨p, pub, vars, A, B, n, c, m, d, rows, ws, bl, bw, qs, coin, seed, real, hc, hin⟩ := fits_case27 l0 f0
  obtain ⟨P, S, hp, hpin⟩ := fits_proof l1 f1
  exact ⟨p, pub, vars, A, B, n, c, m, d, rows, ws, bl, bw, qs, coin, seed, real, P, S, Array.toList_inj.1 hc, hin, Array.toList_inj.1 hp, hpin⟩
end Go.Proofs.Ytkaecidnkkcbaaa

