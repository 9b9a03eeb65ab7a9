/-
  WireFails, WireIsolated: the walks of the laws.
-/
import Derived.Test.YtohddeebmofoeaaWireD
import Derived.Test.YtohddeebmofoeaaWireH
namespace Go.Proofs.Ytohddeebmofoeaa
open Go.RowKit

/-- A call of a Read method, as the law's Op has it: kind, most, p. -/
structure OpR where
  kind : Nat
  most : Int
  p : Nat
def OpR.cells (o : OpR) : List Value := [.int .u8 (o.kind : Int), .int .i64 o.most, .int .u64 (o.p : Int)]
def OpR.good (o : OpR) : Prop := o.kind < 256 ∧ (-9223372036854775808 ≤ o.most ∧ o.most ≤ 9223372036854775807) ∧ o.p < 18446744073709551616
/-- The slice A reads as calls of Read methods. -/
def RdOps (w : World) (A : Option Addr) (l : List OpR) : Prop := (∀ x ∈ l, x.good) ∧ ∀ (i : Nat) (hi : i < l.length), ∃ a, A = some a ∧ ∀ j, j < 3 → w.cell? (a.add (i * 3 + j)) = l[i].cells[j]?
theorem RdOps.below {w w' : World} {A : Option Addr} {l : List OpR} (h : RdOps w A l) (hb : Below w.heap.size w w') : RdOps w' A l :=
  ⟨h.1, fun i hi => by
    obtain ⟨a, e, hc⟩ := h.2 i hi
    refine ⟨a, e, fun j hj => ?_⟩
    have hcj := hc j hj
    have hs : ∃ u, l[i].cells[j]? = some u := ⟨_, List.getElem?_eq_getElem (by simpa [OpR.cells] using hj)⟩
    obtain ⟨u, hu⟩ := hs
    rw [hu] at hcj ⊢
    exact (hb.cell (World.block_lt_of_cell? _ _ hcj)).trans hcj⟩
theorem RdOps.at_ {w : World} {A : Option Addr} {l : List OpR} (h : RdOps w A l) {i : Nat} (hi : i < l.length) :
    ∃ a o b q, A = some a ∧ o = l[i] ∧ o.good ∧ a.add (i * 3) = ⟨b, q, none⟩ ∧ w.cell? ⟨b, q, none⟩ = some (.int .u8 (o.kind : Int)) ∧ w.cell? ⟨b, q + 1, none⟩ = some (.int .i64 o.most) ∧ w.cell? ⟨b, q + 2, none⟩ = some (.int .u64 (o.p : Int)) := by
  obtain ⟨a, e, hc⟩ := h.2 i hi
  have h0 := hc 0 (by omega)
  rw [Nat.add_zero] at h0
  obtain ⟨b, q, hq⟩ : ∃ b q, a.add (i * 3) = ⟨b, q, none⟩ := by
    have hs := World.cell?_spot h0
    generalize a.add (i * 3) = x at hs
    obtain ⟨b, q, s⟩ := x
    simp at hs
    subst hs
    exact ⟨b, q, rfl⟩
  have h1 := hc 1 (by omega)
  have h2 := hc 2 (by omega)
  rw [← add_add', hq] at h1 h2
  rw [hq] at h0
  exact ⟨a, _, b, q, e, rfl, h.1 _ (List.getElem_mem _), hq, h0, by simpa [Addr.add, OpR.cells] using h1, by simpa [Addr.add, OpR.cells] using h2⟩

theorem cells_op : Try.prog.cellsOf 45 = 3 := by kernel_rfl
theorem arg_ops {w : World} {A : Option Addr} {n c : Nat} (h : Fits Try.prog w 40 (Value.slice A n c).cells.toList) : ∃ l, l.length = n ∧ n ≤ 9223372036854775807 ∧ RdOps w A l := by
  obtain ⟨A', n', c', e, h1, h2, l, hl, hg, hp⟩ := fits_rows OpR.cells OpR.good 3 Try.underlying40 cells_op (fun cs' hl hf => by
    obtain ⟨_, hx⟩ := fits_struct Try.underlying45 hf
    match cs', hl with
    | [x, y, z], _ =>
      obtain ⟨a, ha, hal⟩ := fits_u8 Try.underlying5 (hx 0 _ rfl)
      obtain ⟨b, hb, hbl⟩ := fits_i64 Try.underlying3 (hx 1 _ rfl)
      obtain ⟨c, hc, hcl⟩ := fits_u64 Try.underlying23 (hx 2 _ rfl)
      have e1 : ∀ k t, Try.prog.cellsOf t = 1 → (([x, y, z].drop k).take (Try.prog.cellsOf t)) = ([x, y, z].drop k).take 1 := fun k t h => by rw [h]
      rw [e1 _ _ (by kernel_rfl)] at ha hb hc
      simp at ha hb hc
      exact ⟨⟨a, b, c⟩, ⟨hal, hbl, hcl⟩, by rw [ha, hb, hc]; rfl⟩) h
  simp [Value.cells] at e
  obtain ⟨rfl, rfl, rfl⟩ := e
  exact ⟨l, hl, by simp [maxLen] at h2; omega, hg, hp⟩

theorem rdDig_fail (k : Nat) (l : List Nat) : rdDig k l true = (0, false, l, true) := by simp [rdDig]
theorem rdUint_fail (m : Nat) (l : List Nat) : rdUint m l true = (0, l, true) := by simp [rdUint, rdDig_fail]
theorem rdInt_fail (m : Int) (l : List Nat) : rdInt m l true = (0, l, true) := by simp [rdInt, rdDig_fail]
theorem rdBytes_fail (m : Int) (l : List Nat) : rdBytes m l true = ([], l, true) := by simp [rdBytes, rdInt_fail]
theorem rdList_fail (m : Int) (p : Nat) (l : List Nat) : rdList m p l true = ([], l, true) := by simp [rdList, rdInt_fail]
theorem rdInt_neg (l : List Nat) (f : Bool) : (rdInt (-1) l f).2.2 = true := by
  unfold rdInt
  rw [if_pos (.inr (by omega))]
theorem rdBytes_neg (l : List Nat) (f : Bool) : ∃ l', rdBytes (-1) l f = ([], l', true) := by
  unfold rdBytes
  rw [if_pos (.inl (rdInt_neg l f))]
  exact ⟨_, rfl⟩

set_option maxHeartbeats 1000000 in
theorem wireFails_in (A C : Option Addr) (n c m d : Nat) (l : List Nat) (os : List OpR) (w : World) (hr : Rd w 1 A n (U8 l)) (hl : ∀ x ∈ l, x < 256) (ho : RdOps w C os) (hom : os.length = m) (hn : n ≤ 500) (hm : m ≤ 20) :
    Calls Try.prog 7 #[.slice A n c, .slice C m d] w fun e w' => e = .returned (.bool true) ∧ Below w.heap.size w w' := by
  have hd : decide ((500 : Int) < (n : Int)) = false := by simp; omega
  have hd2 : decide ((20 : Int) < (m : Int)) = false := by simp; omega
  have HM := Lib.hid hom
  clear hom
  go_enter Try.func7, Try.ntmps7
  go_wp2_with fail
  refine (awake_any _).mono ?_
  rintro e w1 ⟨rfl, hb1⟩
  go_wp2_with fail
  refine (newReader_any A n c l w1 (hr.below hb1) (by omega) hl).mono ?_
  rintro e w2 ⟨g, bd, rfl, hw2, hg2, hbd, _, hb2⟩
  go_wp2_with fail
  refine (rdBytes_any g bd (-1) l false w2 hw2).mono ?_
  rintro e w3 ⟨v3, rfl, hv3, hw3, hg3⟩
  obtain ⟨l3, hl3⟩ := rdBytes_neg l false
  rw [hl3] at hv3 hw3
  clear hl3
  obtain ⟨A3, c3, rfl, _, _, _, _⟩ := own_form hv3
  have hb02 : Below w.heap.size w w2 := below_chain hb1 hb2
  have hb3 : Below w.heap.size w w3 := hb02.grown hg3 hb02.size fun k hk => by injection hk with hk; have := hb1.size; omega
  have hgw : w.heap.size ≤ g := by have := hb1.size; omega
  clear hv3 hw2 hg3 hb1 hb2 hb02 hg2 hbd hr
  go_wp2_with fail
  refine (failed_any g bd l3 true w3 hw3).mono ?_
  rintro e w4 ⟨rfl, rfl⟩
  go_wp2_with fail
  go_loopw [36] (fun i wr => ∃ j : Nat, j ≤ m ∧ i = .int .i64 (j : Int) ∧ WR wr g bd l3 true ∧ Below w.heap.size w wr)
    (fun i _ => m - (intOf i).toNat)
  case atStart => exact ⟨0, Nat.zero_le _, rfl, hw3, hb3⟩
  case round =>
    obtain ⟨j, hj, rfl, hw, hb⟩ := hrel
    clear hw3 hb3
    by_cases hlt : j < m
    · obtain ⟨ad, o, b, q, rfl, _ho, hog, hq, k1, k2, k3⟩ := (ho.below hb).at_ (i := j) (by rw [HM.out]; exact hlt)
      clear _ho
      have hb0 := hb.alloc hb.size (.cells #[.int .u8 (o.kind : Int), .int .i64 o.most, .int .u64 (o.p : Int)] 45)
      have hw0 := hw.below ((Below.refl _ _).alloc (Nat.le_refl _) (.cells #[.int .u8 (o.kind : Int), .int .i64 o.most, .int .u64 (o.p : Int)] 45)) (Nat.le_refl _)
      have hx0 := Blk.new wr 45 #[.int .u8 (o.kind : Int), .int .i64 o.most, .int .u64 (o.p : Int)]
      have hne : some wr.heap.size ≠ some g := fun e => by injection e with e; have := hw.lt; omega
      obtain ⟨gb, hgb⟩ : ∃ gb, gb = wr.heap.size := ⟨_, rfl⟩
      rw [← hgb] at hx0 hne
      have HB := Lib.hid hgb
      clear hgb
      go_wp2_with fail
      rw [← HB.out]
      refine (rUint_any g bd o.p l3 true _ hw0).mono ?_
      rw [rdUint_fail]
      rintro e w5 ⟨rfl, hw5, hg5⟩
      have hb5 := hb0.grown hg5 hb0.size fun k hk => by injection hk with hk; omega
      have hx5 := hx0.grown hg5 hne
      have c1 := hx5.cell 1
      have c2 := hx5.cell 2
      simp at c1 c2
      clear hb0 hw0 hx0 hg5 k1 k2 k3 hq hb hw
      go_wp2_with fail
      refine (rdInt_any g bd o.most l3 true _ hw5).mono ?_
      rw [rdInt_fail]
      rintro e w6 ⟨rfl, hw6, hg6⟩
      have hb6 := hb5.grown hg6 hb5.size fun k hk => by injection hk with hk; omega
      have hx6 := hx5.grown hg6 hne
      have c1 := hx6.cell 1
      have c2 := hx6.cell 2
      simp at c1 c2
      clear hb5 hw5 hx5 hg6
      go_wp2_with fail
      refine (rdList_any g bd o.p o.most l3 true _ hw6).mono ?_
      rw [rdList_fail]
      rintro e w7 ⟨v7, rfl, hv7, hw7, hg7⟩
      obtain ⟨A7, c7, rfl, _, _, _, _⟩ := own_form hv7
      have hb7 := hb6.grown hg7 hb6.size fun k hk => by injection hk with hk; omega
      have hx7 := hx6.grown hg7 hne
      have c1 := hx7.cell 1
      simp at c1
      clear hb6 hw6 hx6 hg7 hv7
      go_wp2_with fail
      refine (rdBytes_any g bd o.most l3 true _ hw7).mono ?_
      rw [rdBytes_fail]
      rintro e w8 ⟨v8, rfl, hv8, hw8, hg8⟩
      obtain ⟨A8, c8, rfl, _, _, _, _⟩ := own_form hv8
      have hb8 := hb7.grown hg8 hb7.size fun k hk => by injection hk with hk; omega
      clear hb7 hw7 hg8 hv8 hx7
      go_wp2_with fail
      refine (done_any g bd l3 true _ hw8).mono ?_
      rintro e w9 ⟨rfl, kk, rfl⟩
      go_wp2_with fail
      refine (failed_any g bd l3 true _ (hw8.drewN kk)).mono ?_
      rintro e w10 ⟨rfl, rfl⟩
      have hb9 := below_drewN' hb8 kk
      have hw9 := hw8.drewN kk
      clear hb8 hw8
      go_wp2
      go_roundw
      case rel => exact ⟨j + 1, by omega, by go_num, hw9, hb9⟩
      case measure => simp [intOf]; omega
    · go_wp2_with fail
      refine (done_any g bd l3 true _ hw).mono ?_
      rintro e w5 ⟨rfl, kk, rfl⟩
      go_wp2
      go_ret
      exact ⟨by simp, below_drewN' hb kk⟩
end Go.Proofs.Ytohddeebmofoeaa
