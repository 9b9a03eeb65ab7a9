/-
  layout.New for a valid table.
-/
import Derived.Test.YtefnagiffllhbaaJN15
import Derived.Test.YtefnagiffllhbaaJN5

/- NewA -/
namespace Go.Proofs.Ytefnagiffllhbaa
open Go.RowKit

def parBad (bl bw qs : Int) : Prop := bl < 2 ∨ 256 < bl ∨ bl.toNat &&& (bl.toNat - 1) ≠ 0 ∨ qs < 1 ∨ 64 < qs ∨ (bw ≠ 1 ∧ bw ≠ 2 ∧ bw ≠ 4 ∧ bw ≠ 8)
theorem newErr_bad {p : Nat} {pub vars : Int} {nr : Nat} {bl bw qs : Int} (h : parBad bl bw qs) : newErr ⟨p, pub, vars, nr, bl, bw, qs⟩ = 1 := if_pos h

set_option maxRecDepth 100000 in
set_option maxHeartbeats 1000000 in
theorem parsBad_any (bl bw qs : Int) (w : World) (h : parBad bl bw qs) :
    Calls Try.prog 53 #[.agg #[.int .i64 bl, .int .i64 bw, .int .i64 qs]] w fun e w' => e = .returned (.bool false) ∧ Below w.heap.size w w' := by
  have hb0 : Below w.heap.size w (w.alloc (.cells #[.int .i64 bl, .int .i64 bw, .int .i64 qs] 27)) := (Below.refl _ _).alloc (Nat.le_refl _) _
  by_cases hw : bw ≠ 1 ∧ bw ≠ 2 ∧ bw ≠ 4 ∧ bw ≠ 8
  · obtain ⟨h1, h2, h3, h4⟩ := hw
    have d1 : (bw != 1) = true := by rw [bne_iff_ne]; exact h1
    have d2 : (bw != 2) = true := by rw [bne_iff_ne]; exact h2
    have d3 : (bw != 4) = true := by rw [bne_iff_ne]; exact h3
    have d4 : (bw != 8) = true := by rw [bne_iff_ne]; exact h4
    clear h h1 h2 h3 h4
    go_enter Try.func53, Try.ntmps53
    go_wp2_with fail
    go_ret
    exact ⟨rfl, hb0⟩
  have hw' : bw = 1 ∨ bw = 2 ∨ bw = 4 ∨ bw = 8 := by omega
  by_cases z1 : bl < 2
  · have d1 : decide (2 ≤ bl) = false := decide_eq_false (by omega)
    clear h hw
    rcases hw' with rfl | rfl | rfl | rfl <;>
    · go_enter Try.func53, Try.ntmps53
      go_wp2_with fail
      go_ret
      exact ⟨rfl, hb0⟩
  have d1 : decide (2 ≤ bl) = true := decide_eq_true (by omega)
  by_cases z2 : 256 < bl
  · have d2 : decide (bl ≤ 256) = false := decide_eq_false (by omega)
    clear h hw
    rcases hw' with rfl | rfl | rfl | rfl <;>
    · go_enter Try.func53, Try.ntmps53
      go_wp2_with fail
      go_ret
      exact ⟨rfl, hb0⟩
  have d2 : decide (bl ≤ 256) = true := decide_eq_true (by omega)
  obtain ⟨b, rfl⟩ := Int.eq_ofNat_of_zero_le (show 0 ≤ bl by omega)
  unfold parBad at h
  rw [Int.toNat_natCast] at h
  have hand := and_pred ⟨b, by omega⟩ (by show 2 ≤ b; omega)
  simp only at hand
  have i1 : (1 : Int) ≤ (b : Int) := by omega
  have i2 : (0 : Int) ≤ (b : Int) - 1 := by omega
  have i3 : (b : Int) ≤ 256 := by omega
  by_cases z3 : b &&& (b - 1) = 0
  · rw [z3] at hand
    have hq : ¬ (1 ≤ qs ∧ qs ≤ 64) := by omega
    clear h hw z3
    by_cases z4 : qs < 1
    · have d4 : decide (1 ≤ qs) = false := decide_eq_false (by omega)
      rcases hw' with rfl | rfl | rfl | rfl <;>
      · go_enter Try.func53, Try.ntmps53
        go_wp2_with fail
        go_ret
        exact ⟨rfl, hb0⟩
    · have d4 : decide (1 ≤ qs) = true := decide_eq_true (by omega)
      have d5 : decide (qs ≤ 64) = false := decide_eq_false (by omega)
      rcases hw' with rfl | rfl | rfl | rfl <;>
      · go_enter Try.func53, Try.ntmps53
        go_wp2_with fail
        go_ret
        exact ⟨rfl, hb0⟩
  · obtain ⟨v, hv⟩ : ∃ v, v = b &&& (b - 1) := ⟨_, rfl⟩
    rw [← hv] at hand z3
    have d3 : ((v : Int) == 0) = false := by rw [beq_eq_false_iff_ne]; omega
    clear h hw hv z3
    rcases hw' with rfl | rfl | rfl | rfl <;>
    · go_enter Try.func53, Try.ntmps53
      go_wp2_with fail
      go_ret
      exact ⟨rfl, hb0⟩

set_option maxRecDepth 100000 in
set_option maxHeartbeats 1000000 in
theorem parsGood_any (b bw q : Nat) (w : World) (h0 : 2 ≤ b) (h1 : b ≤ 256) (h2 : b &&& (b - 1) = 0) (h3 : 1 ≤ q) (h4 : q ≤ 64) (hw' : bw = 1 ∨ bw = 2 ∨ bw = 4 ∨ bw = 8) :
    Calls Try.prog 53 #[.agg #[.int .i64 (b : Int), .int .i64 (bw : Int), .int .i64 (q : Int)]] w fun e w' => e = .returned (.bool true) ∧ Below w.heap.size w w' := by
  have hand := and_pred ⟨b, by omega⟩ (by show 2 ≤ b; omega)
  simp only at hand
  rw [h2] at hand
  have i1 : (1 : Int) ≤ (b : Int) := by omega
  have i2 : (0 : Int) ≤ (b : Int) - 1 := by omega
  have i3 : (b : Int) ≤ 256 := by omega
  have d1 : decide ((2 : Int) ≤ (b : Int)) = true := decide_eq_true (by omega)
  have d2 : decide ((b : Int) ≤ 256) = true := decide_eq_true (by omega)
  have d4 : decide ((1 : Int) ≤ (q : Int)) = true := decide_eq_true (by omega)
  have d5 : decide ((q : Int) ≤ 64) = true := decide_eq_true (by omega)
  clear h0 h1 h2 h3 h4
  have hb0 : Below w.heap.size w (w.alloc (.cells #[.int .i64 (b : Int), .int .i64 (bw : Int), .int .i64 (q : Int)] 27)) := (Below.refl _ _).alloc (Nat.le_refl _) _
  rcases hw' with rfl | rfl | rfl | rfl <;>
  · go_enter Try.func53, Try.ntmps53
    go_wp2_with fail
    go_ret
    exact ⟨rfl, hb0⟩
end Go.Proofs.Ytefnagiffllhbaa

/- NewB -/
namespace Go.Proofs.Ytefnagiffllhbaa
open Go.RowKit

section
variable (p : Nat) (pub vars : Int) (A : Option Addr) (n c : Nat) (rows : List RowR) (bl bw qs : Int) (w : World)
theorem pNew_bad (hr : RSl 3 RRow w [.slice A n c] rows) (ht : tabOk p pub vars rows = true) (hbad : parBad bl bw qs) :
    Calls Try.prog 23 (newArgs p pub vars A n c bl bw qs) w fun e w' => e = .returned (.tuple #[.agg layZ, .int .i64 1]) ∧ Below w.heap.size w w' := by
  have HV := Lib.hid (fun w' (hb : Below w.heap.size w w') => pTabValid_any p pub vars A n c rows w' (kept_RSl kept_RRow _ _ _ _ hb hr))
  have HP := Lib.hid (fun w => parsBad_any bl bw qs w hbad)
  rw [ht] at HV
  clear hr ht hbad
  unfold newArgs tabV layZ at *
  obtain ⟨kt, kx, kz, hb0, -⟩ := boxes3 w 25 27 41 #[.int .u64 (p : Int), .int .i64 pub, .int .i64 vars, .slice A n c] #[.int .i64 bl, .int .i64 bw, .int .i64 qs] #[.int .u64 0, .int .i64 0, .int .i64 0, .int .i64 0, .int .i64 0, .int .i64 0, .int .i64 0, .int .i64 0, .int .i64 0, .int .i64 0, .int .i64 0]
  go_enter Try.func23, Try.ntmps23
  go_wp2_with fail
  generalize ((w.alloc _).alloc _).alloc _ = w0 at kt kx kz hb0 ⊢
  refine (HV.out _ hb0).mono ?_
  rintro e w1 ⟨rfl, hb1⟩
  replace kt := kt.below hb1 kt.lt
  replace kx := kx.below hb1 kx.lt
  replace kz := kz.below hb1 kz.lt
  replace hb0 := below_chain hb0 hb1
  have cx := kx.cell
  clear hb1
  go_wp2_with fail
  refine (HP.out _).mono ?_
  rintro e w2 ⟨rfl, hb2⟩
  replace kz := kz.below hb2 kz.lt
  replace hb0 := below_chain hb0 hb2
  clear hb2 cx
  have cz := kz.cell
  have fz := kz.frozen
  go_wp2_with fail
  have kW := set11_blk kz (.int .u64 0) (.int .i64 0) (.int .i64 0) (.int .i64 0) (.int .i64 0) (.int .i64 0) (.int .i64 0) (.int .i64 0) (.int .i64 0) (.int .i64 0) (.int .i64 0)
  have hW := set11_below (g := w.heap.size + 1 + 1) hb0 (by omega) (.int .u64 0) (.int .i64 0) (.int .i64 0) (.int .i64 0) (.int .i64 0) (.int .i64 0) (.int .i64 0) (.int .i64 0) (.int .i64 0) (.int .i64 0) (.int .i64 0)
  clear cz fz kz hb0
  revert kW hW
  generalize ((((((((((w2.setCell _ _).setCell _ _).setCell _ _).setCell _ _).setCell _ _).setCell _ _).setCell _ _).setCell _ _).setCell _ _).setCell _ _).setCell _ _ = wf
  intro kW hW
  have c4 := kW.cell
  exact bodyPost_ret (v := .tuple #[.agg #[.int .u64 0, .int .i64 0, .int .i64 0, .int .i64 0, .int .i64 0, .int .i64 0, .int .i64 0, .int .i64 0, .int .i64 0, .int .i64 0, .int .i64 0], .int .i64 1]) (by simp [results, Try.results23, go_sem, c4]) rfl ⟨rfl, hW⟩
end

theorem set_only' {w : World} (g i : Nat) (v : Value) : w.grownBy (w.setCell ⟨g, i, none⟩ v) (some g) := grown_setCell' (p := ⟨g, i, none⟩) (grown_refl' w _) (.inl rfl) _
/-- The number in a cell. -/
def cellN (w : World) (g i : Nat) : Nat := match w.cell? ⟨g, i, none⟩ with | some (.int _ n) => n.toNat | _ => 0

set_option maxRecDepth 100000 in
set_option maxHeartbeats 2000000 in
theorem pNew_good (p U V : Nat) (A : Option Addr) (n c : Nat) (rows : List RowR) (b bw q : Nat) (w : World) (hr : RSl 3 RRow w [.slice A n c] rows) (ht : tabOk p U V rows = true)
    (h0 : 2 ≤ b) (h1 : b ≤ 256) (h2 : b &&& (b - 1) = 0) (h3 : 1 ≤ q) (h4 : q ≤ 64) (hw : bw = 1 ∨ bw = 2 ∨ bw = 4 ∨ bw = 8) :
    Calls Try.prog 23 (newArgs p U V A n c b bw q) w fun e w' => NewPost ⟨p, U, V, rows.length, b, bw, q⟩ e ∧ Below w.heap.size w w' := by
  have hok := tabOk_p ht
  obtain ⟨hp1, hp⟩ := okP_lt hok
  have HV := Lib.hid (fun w' (hb : Below w.heap.size w w') => pTabValid_any p U V A n c rows w' (kept_RSl kept_RRow _ _ _ _ hb hr))
  have HPa := Lib.hid (fun w => parsGood_any b bw q w h0 h1 h2 h3 h4 hw)
  rw [ht] at HV
  have htt : U < V ∧ V ≤ 65536 ∧ rows.length ≤ 16384 := by
    unfold tabOk at ht
    simp only [Bool.and_eq_true, Bool.not_eq_true', decide_eq_false_iff_not] at ht
    omega
  obtain ⟨t1, t2, t3⟩ := htt
  obtain ⟨A', n', c', he, hlen, hnc, hmx, -⟩ := hr
  simp at he
  obtain ⟨rfl, rfl, rfl⟩ := he
  subst hlen
  have hbw8 : bw ≤ 8 ∧ 1 ≤ bw := by omega
  obtain ⟨k, hk⟩ : ∃ k, k = b + q := ⟨_, rfl⟩
  obtain ⟨kk, hkk⟩ : ∃ kk, kk = 2 * k := ⟨_, rfl⟩
  obtain ⟨s, hs⟩ : ∃ s, s = V - 1 - U := ⟨_, rfl⟩
  obtain ⟨v1, hv1⟩ : ∃ v1, v1 = V - 1 := ⟨_, rfl⟩
  obtain ⟨pm, hpm⟩ : ∃ pm, pm = p - 1 := ⟨_, rfl⟩
  have ek : (b : Int) + (q : Int) = (k : Int) := by omega
  have ek1 : IntKind.i64.wrap (k : Int) = (k : Int) := wr_i64 _ (by omega) (by omega)
  have ek2 : (2 : Int) * (k : Int) = (kk : Int) := by omega
  have ek3 : IntKind.i64.wrap (kk : Int) = (kk : Int) := wr_i64 _ (by omega) (by omega)
  have ev : (V : Int) - 1 = (v1 : Int) := by omega
  have ev2 : IntKind.i64.wrap (v1 : Int) = (v1 : Int) := wr_i64 _ (by omega) (by omega)
  have es : (v1 : Int) - (U : Int) = (s : Int) := by omega
  have es2 : IntKind.i64.wrap (s : Int) = (s : Int) := wr_i64 _ (by omega) (by omega)
  have ep : IntKind.u64.wrap ((p : Int) - 1) = (pm : Int) := by rw [hpm]; exact wr_sub p 1 (by omega) hp
  have ep2 : (p : Int) - 1 = (pm : Int) := by omega
  have ep3 : IntKind.u64.wrap (pm : Int) = (pm : Int) := wr_nat _ (by omega)
  have j1 : kk ≤ 640 := by omega
  have j2 : 6 ≤ kk := by omega
  have hb256 : IntKind.u64.wrap (b : Int) = (b : Int) := wr_nat b (by omega)
  have HB := Lib.hid (And.intro h0 h1)
  have HQ := Lib.hid (And.intro h3 h4)
  have HK := Lib.hid hk
  have HS := Lib.hid hs
  have HT := Lib.hid (And.intro hok (And.intro t1 (And.intro t2 t3)))
  have HP := Lib.hid (show pm = p - 1 ∧ 17 ≤ p from ⟨hpm, hp1⟩)
  have HG := Lib.hid (fun N NN hN hNN => newErr_good (p := p) (U := U) (V := V) (nr := rows.length) (bw := bw) (N := N) (NN := NN) h0 h1 h2 h3 h4 hw hpm hN hNN)
  have HB2 := Lib.hid h2
  have HBW := Lib.hid hbw8
  have HW := Lib.hid hw
  have HKK := Lib.hid (show kk = 2 * (b + q) by omega)
  have gm : (rows.length : Int) ≤ 16384 := by omega
  have u1 : (rows.length + b - 1) / b ≤ 100000 := Nat.le_trans (Nat.div_le_self _ _) (by omega)
  have u2 : (s + b - 1) / b ≤ 100000 := Nat.le_trans (Nat.div_le_self _ _) (by omega)
  have HU := Lib.hid (fun w => parts_any rows.length b w (by omega) (by omega) (by omega))
  have HV2 := Lib.hid (fun w => parts_any s b w (by omega) (by omega) (by omega))
  obtain ⟨ub, hub⟩ : ∃ ub, ub = (rows.length + b - 1) / b := ⟨_, rfl⟩
  obtain ⟨ua, hua⟩ : ∃ ua, ua = (s + b - 1) / b := ⟨_, rfl⟩
  rw [← hub] at HU u1
  rw [← hua] at HV2 u2
  have HUB := Lib.hid hub
  have HUA := Lib.hid hua
  clear hub hua h0 h1 h2 h3 h4 hk hs hkk hok hp hp1 ht t1 t2 t3 hpm hw hbw8 hv1
  unfold newArgs tabV at *
  obtain ⟨kt, kx, kz, hb0, -⟩ := boxes3 w 25 27 41 #[.int .u64 (p : Int), .int .i64 (U : Int), .int .i64 (V : Int), .slice A rows.length c] #[.int .i64 (b : Int), .int .i64 (bw : Int), .int .i64 (q : Int)] #[.int .u64 0, .int .i64 0, .int .i64 0, .int .i64 0, .int .i64 0, .int .i64 0, .int .i64 0, .int .i64 0, .int .i64 0, .int .i64 0, .int .i64 0]
  go_enter Try.func23, Try.ntmps23
  go_wp2_with fail
  generalize ((w.alloc _).alloc _).alloc _ = w0 at kt kx kz hb0 ⊢
  refine (HV.out _ hb0).mono ?_
  rintro e w1 ⟨rfl, hb1⟩
  replace kt := kt.below hb1 kt.lt
  replace kx := kx.below hb1 kx.lt
  replace kz := kz.below hb1 kz.lt
  replace hb0 := below_chain hb0 hb1
  have cx := kx.cell
  clear hb1
  go_wp2_with fail
  refine (HPa.out _).mono ?_
  rintro e w2 ⟨rfl, hb2⟩
  replace kt := kt.below hb2 kt.lt
  replace kx := kx.below hb2 kx.lt
  replace kz := kz.below hb2 kz.lt
  replace hb0 := below_chain hb0 hb2
  clear hb2 cx
  have cx := kx.cell
  have ct := kt.cell
  go_wp2_with fail
  have hal := (Below.refl w2.heap.size w2).alloc (Nat.le_refl _) (.cells #[.int .u64 (p : Int), .int .i64 (b : Int), .int .i64 (q : Int), .int .i64 (k : Int), .int .i64 1, .int .i64 0, .int .i64 0, .int .i64 0, .int .i64 0, .int .i64 0, .int .i64 0] 41)
  have k6 := Blk.new w2 41 #[.int .u64 (p : Int), .int .i64 (b : Int), .int .i64 (q : Int), .int .i64 (k : Int), .int .i64 1, .int .i64 0, .int .i64 0, .int .i64 0, .int .i64 0, .int .i64 0, .int .i64 0]
  have hg6 : w.heap.size + 1 + 1 < w2.heap.size := kz.lt
  replace kt := kt.below hal kt.lt
  replace kx := kx.below hal kx.lt
  replace kz := kz.below hal kz.lt
  replace hb0 := below_chain hb0 hal
  clear hal cx ct
  generalize w2.alloc _ = w3 at kt kx kz hb0 k6 ⊢
  generalize w2.heap.size = g6 at k6 hg6 ⊢
  go_loopw [35] (fun _ wr => ∃ N : Nat, Hid ((∃ z, N = 2 ^ z) ∧ N < 2 * kk) ∧ N ≤ 1280 ∧ 0 < N ∧ Blk wr w.heap.size 25 #[.int .u64 (p : Int), .int .i64 (U : Int), .int .i64 (V : Int), .slice A rows.length c] ∧ Blk wr (w.heap.size + 1) 27 #[.int .i64 (b : Int), .int .i64 (bw : Int), .int .i64 (q : Int)] ∧ Blk wr (w.heap.size + 1 + 1) 41 #[.int .u64 0, .int .i64 0, .int .i64 0, .int .i64 0, .int .i64 0, .int .i64 0, .int .i64 0, .int .i64 0, .int .i64 0, .int .i64 0, .int .i64 0] ∧ Blk wr g6 41 #[.int .u64 (p : Int), .int .i64 (b : Int), .int .i64 (q : Int), .int .i64 (k : Int), .int .i64 (N : Int), .int .i64 0, .int .i64 0, .int .i64 0, .int .i64 0, .int .i64 0, .int .i64 0] ∧ Below w.heap.size w wr) (fun _ wr => 1300 - cellN wr g6 4)
  case atStart => exact ⟨1, ⟨⟨0, rfl⟩, by omega⟩, by omega, by omega, kt, kx, kz, k6, hb0⟩
  case round =>
    clear kt kx kz k6 hb0
    obtain ⟨N, HN, hN2, hN0, kt, kx, kz, k6, hb0⟩ := hrel
    have cM : cellN wr g6 4 = N := by unfold cellN; rw [k6.cell]; simp
    by_cases hlt : N < kk
    · have q1 : (N : Int) < (kk : Int) := by omega
      obtain ⟨N2, hN⟩ : ∃ N2, N2 = 2 * N := ⟨_, rfl⟩
      have e1 : (N : Int) * 2 = (N2 : Int) := by omega
      have e2 : IntKind.i64.wrap (N2 : Int) = (N2 : Int) := wr_i64 _ (by omega) (by omega)
      have HN3 : Hid ((∃ z, N2 = 2 ^ z) ∧ N2 < 2 * kk) := by
        obtain ⟨⟨z, hz⟩, -⟩ := HN.out
        exact ⟨⟨z + 1, by rw [hN, hz, Nat.pow_succ, Nat.mul_comm]⟩, by omega⟩
      have hN4 : N2 ≤ 1280 := by omega
      have hN5 : 0 < N2 := by omega
      have HNN := Lib.hid hN
      have HCM := Lib.hid cM
      clear hN cM
      have c6 := k6.cell
      have f6 := k6.frozen
      go_wp2_with fail
      have hg := set_only' (w := wr) g6 4 (.int .i64 (N2 : Int))
      replace k6 := k6.set_ 4 (.int .i64 (N2 : Int))
      simp at k6
      replace kt := kt.grown hg (fun e => by have := Option.some.inj e; first | omega | (exact absurd this (by assumption)) | (exact absurd this.symm (by assumption)))
      replace kx := kx.grown hg (fun e => by have := Option.some.inj e; first | omega | (exact absurd this (by assumption)) | (exact absurd this.symm (by assumption)))
      replace kz := kz.grown hg (fun e => by have := Option.some.inj e; first | omega | (exact absurd this (by assumption)) | (exact absurd this.symm (by assumption)))
      replace hb0 := hb0.trans (below_of_only hg hb0.size (by omega))
      clear hg c6 f6
      go_roundw
      case rel => exact ⟨N2, HN3, hN4, hN5, kt, kx, kz, k6, hb0⟩
      case measure =>
        have c2 : cellN (wr.setCell ⟨g6, 4, none⟩ (.int .i64 (N2 : Int))) g6 4 = N2 := by unfold cellN; rw [k6.cell]; simp
        rw [c2, HCM.out]
        have := HNN.out
        omega
    · have q1 : ¬ ((N : Int) < (kk : Int)) := by omega
      clear cM
      obtain ⟨NN, hNN⟩ : ∃ NN, NN = bw * N := ⟨_, rfl⟩
      have hNNl : NN ≤ 10240 := by rw [hNN]; exact Nat.mul_le_mul HBW.out.1 hN2
      have hNN0 : 0 < NN := by rw [hNN]; exact Nat.mul_pos (by have := HBW.out; omega) hN0
      have e1 : (N : Int) * (bw : Int) = (NN : Int) := by rw [hNN, Int.natCast_mul, Int.mul_comm]
      have e2 : IntKind.i64.wrap (NN : Int) = (NN : Int) := wr_i64 _ (by omega) (by omega)
      have eN : IntKind.u64.wrap (NN : Int) = (NN : Int) := wr_nat _ (by omega)
      have hfit : (∃ z, N = 2 ^ z) ∧ 2 * (b + q) ≤ N ∧ (1 ≤ 2 * (b + q) → N < 2 * (2 * (b + q))) := by
        have h := HN.out
        rw [HKK.out] at h
        exact ⟨h.1, by rw [← HKK.out]; omega, fun _ => h.2⟩
      replace HG := Lib.hid (HG.out _ _ hfit hNN)
      have HNP : Hid (∃ z, NN = 2 ^ z) := by
        obtain ⟨z, hz⟩ := hfit.1
        rcases HW.out with h | h | h | h <;> rw [hNN, h, hz]
        · exact ⟨z, by omega⟩
        · exact ⟨z + 1, by rw [Nat.pow_succ, Nat.mul_comm]⟩
        · exact ⟨z + 2, by rw [Nat.pow_add, Nat.mul_comm]⟩
        · exact ⟨z + 3, by rw [Nat.pow_add, Nat.mul_comm]⟩
      have HNK : Hid (2 * k ≤ NN) := by
        have h1 : N ≤ NN := by rw [hNN]; exact Nat.le_mul_of_pos_left _ (by have := HBW.out; omega)
        have := hfit.2.1
        have := HK.out
        show 2 * k ≤ NN
        omega
      clear hfit HN hNN hN2 hN0 hlt
      have HERR : Hid (∀ {er : Int}, (if pm % b ≠ 0 ∨ pm % NN ≠ 0 ∨ pm ≤ NN then (7 : Int) else if 1024 < NN then 3 else 0) = er → er = newErr ⟨p, U, V, rows.length, b, bw, q⟩) := fun h => h.symm.trans (HG.out.2).symm
      have c6 := k6.cell
      have f6 := k6.frozen
      have cx := kx.cell
      have lx := kx.lt
      go_upto_region 7 with fail
      have hg := set_only' (w := wr) g6 4 (.int .i64 (NN : Int))
      replace k6 := k6.set_ 4 (.int .i64 (NN : Int))
      simp at k6
      replace kt := kt.grown hg (fun e => by have := Option.some.inj e; first | omega | (exact absurd this (by assumption)) | (exact absurd this.symm (by assumption)))
      replace kx := kx.grown hg (fun e => by have := Option.some.inj e; first | omega | (exact absurd this (by assumption)) | (exact absurd this.symm (by assumption)))
      replace kz := kz.grown hg (fun e => by have := Option.some.inj e; first | omega | (exact absurd this (by assumption)) | (exact absurd this.symm (by assumption)))
      replace hb0 := hb0.trans (below_of_only hg hb0.size (by omega))
      clear hg c6 f6 cx lx e1 e2
      generalize wr.setCell _ _ = w4 at kt kx kz k6 hb0 ⊢
      have c6 := k6.cell
      have ct := kt.cell
      have cz := kz.cell
      have fz := kz.frozen
      have q1 : (0 : Int) < (b : Int) := by have := HB.out; omega
      have q2 : ¬ ((b : Int) = 0) := by omega
      have q3 : ¬ (b = 0) := by omega
      have q4 : (0 : Int) < (NN : Int) := by omega
      have q5 : ¬ ((NN : Int) = 0) := by omega
      have q6 : ¬ (NN = 0) := by omega
      have r1 : (pm : Int) % (b : Int) = ((pm % b : Nat) : Int) := rfl
      have r2 : (pm : Int) % (NN : Int) = ((pm % NN : Nat) : Int) := rfl
      have r3 : (pm : Int).tmod (b : Int) = ((pm % b : Nat) : Int) := rfl
      have r4 : (pm : Int).tmod (NN : Int) = ((pm % NN : Nat) : Int) := rfl
      obtain ⟨x1, hx1⟩ : ∃ x1, x1 = pm % b := ⟨_, rfl⟩
      obtain ⟨x2, hx2⟩ : ∃ x2, x2 = pm % NN := ⟨_, rfl⟩
      rw [← hx1] at r1 r3
      rw [← hx2] at r2 r4
      have HX1 := Lib.hid hx1.symm
      have HX2 := Lib.hid hx2.symm
      clear hx1 hx2
      have fin : ∀ (er : Int), er = 7 ∨ er = 3 → er = newErr ⟨p, U, V, rows.length, b, bw, q⟩ → NewPost ⟨p, U, V, rows.length, b, bw, q⟩ (.returned (.tuple #[.agg layZ, .int .i64 er])) := fun er h h' => ⟨_, _, rfl, .inl ⟨by omega, rfl, h'⟩⟩
      have FIN := Lib.hid fin
      clear fin
      have kW := set11_blk kz (.int .u64 0) (.int .i64 0) (.int .i64 0) (.int .i64 0) (.int .i64 0) (.int .i64 0) (.int .i64 0) (.int .i64 0) (.int .i64 0) (.int .i64 0) (.int .i64 0)
      have hW := set11_below (g := w.heap.size + 1 + 1) hb0 (by omega) (.int .u64 0) (.int .i64 0) (.int .i64 0) (.int .i64 0) (.int .i64 0) (.int .i64 0) (.int .i64 0) (.int .i64 0) (.int .i64 0) (.int .i64 0) (.int .i64 0)
      have KW := Lib.hid (And.intro kW hW)
      clear kW hW
      by_cases z1 : x1 = 0
      · subst z1
        by_cases z2 : x2 = 0
        · subst z2
          by_cases z3 : pm ≤ NN
          · have y1 : decide ((pm : Int) ≤ (NN : Int)) = true := decide_eq_true (by omega)
            have y2 : decide (pm ≤ NN) = true := decide_eq_true z3
            go_wp2_with fail
            obtain ⟨kW, hW⟩ := KW.out
            clear cz fz KW
            generalize ((((((((((w4.setCell _ _).setCell _ _).setCell _ _).setCell _ _).setCell _ _).setCell _ _).setCell _ _).setCell _ _).setCell _ _).setCell _ _).setCell _ _ = wf at kW hW ⊢
            have c4 := kW.cell
            exact bodyPost_ret (v := .tuple #[.agg layZ, .int .i64 7]) (by simp [results, Try.results23, go_sem, c4, layZ]) rfl ⟨FIN.out 7 (.inl rfl) (HERR.out (by rw [if_pos (.inr (.inr z3))])), hW⟩
          · have y1 : decide ((pm : Int) ≤ (NN : Int)) = false := decide_eq_false (by omega)
            have y2 : decide (pm ≤ NN) = false := decide_eq_false z3
            by_cases z4 : 1024 < NN
            · have y3 : decide ((1024 : Int) < (NN : Int)) = true := decide_eq_true (by omega)
              have y4 : decide (1024 < NN) = true := decide_eq_true z4
              go_wp2_with fail
              obtain ⟨kW, hW⟩ := KW.out
              clear cz fz KW
              generalize ((((((((((w4.setCell _ _).setCell _ _).setCell _ _).setCell _ _).setCell _ _).setCell _ _).setCell _ _).setCell _ _).setCell _ _).setCell _ _).setCell _ _ = wf at kW hW ⊢
              have c4 := kW.cell
              exact bodyPost_ret (v := .tuple #[.agg layZ, .int .i64 3]) (by simp [results, Try.results23, go_sem, c4, layZ]) rfl ⟨FIN.out 3 (.inr rfl) (HERR.out (by rw [if_neg (by rw [HX1.out, HX2.out]; omega), if_pos z4])), hW⟩
            · have y3 : decide ((1024 : Int) < (NN : Int)) = false := decide_eq_false (by omega)
              have y4 : decide (1024 < NN) = false := decide_eq_false z4
              have HZ3 := Lib.hid z3
              have HZ4 := Lib.hid z4
              have f6 := k6.frozen
              have l6 := k6.lt
              have n1 : w.heap.size ≠ g6 := by omega
              clear KW cz fz FIN
              go_upto_region 14 with fail
              have hg : w4.grownBy ((w4.setCell ⟨g6, 5, none⟩ (.int .i64 (s : Int))).setCell ⟨g6, 6, none⟩ (.int .i64 (rows.length : Int))) (some g6) := by
                iterate 2 refine grown_setCell' ?_ (.inl rfl) _
                exact grown_refl' w4 _
              replace k6 := (k6.set_ 5 (.int .i64 (s : Int))).set_ 6 (.int .i64 (rows.length : Int))
              simp at k6
              replace kt := kt.grown hg (fun e => by have := Option.some.inj e; first | omega | (exact absurd this (by assumption)) | (exact absurd this.symm (by assumption)))
              replace kx := kx.grown hg (fun e => by have := Option.some.inj e; first | omega | (exact absurd this (by assumption)) | (exact absurd this.symm (by assumption)))
              replace kz := kz.grown hg (fun e => by have := Option.some.inj e; first | omega | (exact absurd this (by assumption)) | (exact absurd this.symm (by assumption)))
              replace hb0 := hb0.trans (below_of_only hg hb0.size (by omega))
              clear hg c6 f6 ct l6
              generalize (w4.setCell _ _).setCell _ _ = w5 at kt kx kz k6 hb0 ⊢
              have c6 := k6.cell
              have f6 := k6.frozen
              have l6 := k6.lt
              go_wp2_with fail
              refine (HV2.out _).mono ?_
              rintro e w6 ⟨rfl, rfl⟩
              go_upto_region 15 with fail
              have hg := set_only' (w := w6) g6 7 (.int .i64 (ua : Int))
              replace k6 := k6.set_ 7 (.int .i64 (ua : Int))
              simp at k6
              replace kt := kt.grown hg (fun e => by have := Option.some.inj e; first | omega | (exact absurd this (by assumption)) | (exact absurd this.symm (by assumption)))
              replace kx := kx.grown hg (fun e => by have := Option.some.inj e; first | omega | (exact absurd this (by assumption)) | (exact absurd this.symm (by assumption)))
              replace kz := kz.grown hg (fun e => by have := Option.some.inj e; first | omega | (exact absurd this (by assumption)) | (exact absurd this.symm (by assumption)))
              replace hb0 := hb0.trans (below_of_only hg hb0.size (by omega))
              clear hg c6 f6 l6
              generalize w6.setCell _ _ = w7 at kt kx kz k6 hb0 ⊢
              go_wp2_with fail
              go_loopw [8] (fun y wr => ∃ (i : Nat) (x1 x2 x3 : Int), 1 ≤ i ∧ i ≤ 4 ∧ y = .int .i64 (i : Int) ∧ Hid ((1 < i → x1 = ub) ∧ (2 < i → x2 = ub) ∧ (3 < i → x3 = ub)) ∧ Blk wr (w.heap.size + 1 + 1) 41 #[.int .u64 0, .int .i64 0, .int .i64 0, .int .i64 0, .int .i64 0, .int .i64 0, .int .i64 0, .int .i64 0, .int .i64 0, .int .i64 0, .int .i64 0] ∧ Blk wr g6 41 #[.int .u64 (p : Int), .int .i64 (b : Int), .int .i64 (q : Int), .int .i64 (k : Int), .int .i64 (NN : Int), .int .i64 (s : Int), .int .i64 (rows.length : Int), .int .i64 (ua : Int), .int .i64 x1, .int .i64 x2, .int .i64 x3] ∧ Below w.heap.size w wr) (fun y _ => 4 - (intOf y).toNat)
              case atStart => exact ⟨1, 0, 0, 0, by omega, by omega, rfl, ⟨by omega, by omega, by omega⟩, kz, k6, hb0⟩
              case round =>
                clear kt kx kz k6 hb0
                obtain ⟨i, x1, x2, x3, hi1, hi4, rfl, HXX, kz, k6, hb0⟩ := hrel
                have c6 := k6.cell
                have f6 := k6.frozen
                have l6 := k6.lt
                by_cases hlt : i < 4
                · have hi : i = 1 ∨ i = 2 ∨ i = 3 := by omega
                  rcases hi with rfl | rfl | rfl
                  · go_wp2_with fail
                    refine (HU.out _).mono ?_
                    rintro e w8 ⟨rfl, rfl⟩
                    go_wp2_with fail
                    have hg := set_only' (w := w8) g6 8 (.int .i64 (ub : Int))
                    replace k6 := k6.set_ 8 (.int .i64 (ub : Int))
                    simp at k6
                    replace kz := kz.grown hg (fun e => by have := Option.some.inj e; first | omega | (exact absurd this (by assumption)) | (exact absurd this.symm (by assumption)))
                    replace hb0 := hb0.trans (below_of_only hg hb0.size (by omega))
                    clear hg c6 f6 l6
                    go_roundw
                    case rel => exact ⟨2, (ub : Int), x2, x3, by omega, by omega, rfl, ⟨by have := HXX.out; omega, by have := HXX.out; omega, by have := HXX.out; omega⟩, kz, k6, hb0⟩
                    case measure => simp [intOf]
                  · go_wp2_with fail
                    refine (HU.out _).mono ?_
                    rintro e w8 ⟨rfl, rfl⟩
                    go_wp2_with fail
                    have hg := set_only' (w := w8) g6 9 (.int .i64 (ub : Int))
                    replace k6 := k6.set_ 9 (.int .i64 (ub : Int))
                    simp at k6
                    replace kz := kz.grown hg (fun e => by have := Option.some.inj e; first | omega | (exact absurd this (by assumption)) | (exact absurd this.symm (by assumption)))
                    replace hb0 := hb0.trans (below_of_only hg hb0.size (by omega))
                    clear hg c6 f6 l6
                    go_roundw
                    case rel => exact ⟨3, x1, (ub : Int), x3, by omega, by omega, rfl, ⟨by have := HXX.out; omega, by have := HXX.out; omega, by have := HXX.out; omega⟩, kz, k6, hb0⟩
                    case measure => simp [intOf]
                  · go_wp2_with fail
                    refine (HU.out _).mono ?_
                    rintro e w8 ⟨rfl, rfl⟩
                    go_wp2_with fail
                    have hg := set_only' (w := w8) g6 10 (.int .i64 (ub : Int))
                    replace k6 := k6.set_ 10 (.int .i64 (ub : Int))
                    simp at k6
                    replace kz := kz.grown hg (fun e => by have := Option.some.inj e; first | omega | (exact absurd this (by assumption)) | (exact absurd this.symm (by assumption)))
                    replace hb0 := hb0.trans (below_of_only hg hb0.size (by omega))
                    clear hg c6 f6 l6
                    go_roundw
                    case rel => exact ⟨4, x1, x2, (ub : Int), by omega, by omega, rfl, ⟨by have := HXX.out; omega, by have := HXX.out; omega, by have := HXX.out; omega⟩, kz, k6, hb0⟩
                    case measure => simp [intOf]
                · obtain rfl : i = 4 := by omega
                  obtain ⟨e1, e2, e3⟩ := HXX.out
                  obtain rfl := e1 (by omega)
                  obtain rfl := e2 (by omega)
                  obtain rfl := e3 (by omega)
                  have cz := kz.cell
                  have fz := kz.frozen
                  have lz := kz.lt
                  clear HXX e1 e2 e3
                  go_wp2_with fail
                  have kW := set11_blk kz (.int .u64 (p : Int)) (.int .i64 (b : Int)) (.int .i64 (q : Int)) (.int .i64 (k : Int)) (.int .i64 (NN : Int)) (.int .i64 (s : Int)) (.int .i64 (rows.length : Int)) (.int .i64 (ua : Int)) (.int .i64 (ub : Int)) (.int .i64 (ub : Int)) (.int .i64 (ub : Int))
                  have hW := set11_below (g := w.heap.size + 1 + 1) hb0 (by omega) (.int .u64 (p : Int)) (.int .i64 (b : Int)) (.int .i64 (q : Int)) (.int .i64 (k : Int)) (.int .i64 (NN : Int)) (.int .i64 (s : Int)) (.int .i64 (rows.length : Int)) (.int .i64 (ua : Int)) (.int .i64 (ub : Int)) (.int .i64 (ub : Int)) (.int .i64 (ub : Int))
                  clear cz fz c6 f6 kz hb0 lz l6
                  generalize ((((((((((wr.setCell _ _).setCell _ _).setCell _ _).setCell _ _).setCell _ _).setCell _ _).setCell _ _).setCell _ _).setCell _ _).setCell _ _).setCell _ _ = wf at kW hW ⊢
                  have c4 := kW.cell
                  have HL : LayOk ⟨p, b, q, k, NN, s, rows.length, ua, ub⟩ := by
                    have hB := HB.out
                    have hQ := HQ.out
                    have hT := HT.out
                    refine ⟨hT.1, hB.1, hB.2, hQ.1, hQ.2, HK.out, HNP.out, by show NN ≤ 1024; have := HZ4.out; omega, by have := HS.out; show s ≤ 65536; omega, hT.2.2.2, u2, u1, HB2.out, ?_, ?_, ?_, HNK.out, HUA.out, HUB.out⟩
                    · show (p - 1) % b = 0
                      rw [← HP.out.1]; exact HX1.out
                    · show (p - 1) % NN = 0
                      rw [← HP.out.1]; exact HX2.out
                    · show NN < p - 1
                      rw [← HP.out.1]
                      have := HZ3.out
                      omega
                  have HF2 : LayFor ⟨p, b, q, k, NN, s, rows.length, ua, ub⟩ ⟨p, U, V, rows.length, b, bw, q⟩ := by
                    have e1 : ((V : Int) - 1 - (U : Int)).toNat = s := by have := HS.out; have := HT.out; omega
                    refine ⟨rfl, ?_, (HERR.out (by rw [if_neg (by rw [HX1.out, HX2.out]; have := HZ3.out; omega), if_neg HZ4.out])).symm, by show (0 : Int) ≤ U; omega, by have := HT.out; show (U : Int) < V; omega⟩
                    have e5 : NewIn.n ⟨p, U, V, rows.length, b, bw, q⟩ = NN := HG.out.1.symm
                    unfold newLay
                    simp only [Int.toNat_natCast, e1]
                    rw [e5, HK.out, HUA.out, HUB.out]
                  exact bodyPost_ret (v := .tuple #[.agg (layCs ⟨p, b, q, k, NN, s, rows.length, ua, ub⟩), .int .i64 0]) (by simp [results, Try.results23, go_sem, c4, layCs]) rfl ⟨⟨_, _, rfl, .inr ⟨rfl, _, HL, HF2, rfl⟩⟩, hW⟩
        · have y1 : ((x2 : Int) != 0) = true := by rw [bne_iff_ne]; omega
          have y2 : (x2 != 0) = true := by rw [bne_iff_ne]; exact z2
          go_wp2_with fail
          obtain ⟨kW, hW⟩ := KW.out
          clear cz fz KW
          generalize ((((((((((w4.setCell _ _).setCell _ _).setCell _ _).setCell _ _).setCell _ _).setCell _ _).setCell _ _).setCell _ _).setCell _ _).setCell _ _).setCell _ _ = wf at kW hW ⊢
          have c4 := kW.cell
          exact bodyPost_ret (v := .tuple #[.agg layZ, .int .i64 7]) (by simp [results, Try.results23, go_sem, c4, layZ]) rfl ⟨FIN.out 7 (.inl rfl) (HERR.out (by rw [if_pos (.inr (.inl (by rw [HX2.out]; exact z2)))])), hW⟩
      · have y1 : ((x1 : Int) != 0) = true := by rw [bne_iff_ne]; omega
        have y2 : (x1 != 0) = true := by rw [bne_iff_ne]; exact z1
        go_wp2_with fail
        obtain ⟨kW, hW⟩ := KW.out
        clear cz fz KW
        generalize ((((((((((w4.setCell _ _).setCell _ _).setCell _ _).setCell _ _).setCell _ _).setCell _ _).setCell _ _).setCell _ _).setCell _ _).setCell _ _).setCell _ _ = wf at kW hW ⊢
        have c4 := kW.cell
        exact bodyPost_ret (v := .tuple #[.agg layZ, .int .i64 7]) (by simp [results, Try.results23, go_sem, c4, layZ]) rfl ⟨FIN.out 7 (.inl rfl) (HERR.out (by rw [if_pos (.inl (by rw [HX1.out]; exact z1))])), hW⟩

theorem pNew_any (p : Nat) (pub vars : Int) (A : Option Addr) (n c : Nat) (rows : List RowR) (bl bw qs : Int) (w : World) (hr : RSl 3 RRow w [.slice A n c] rows) (ht : tabOk p pub vars rows = true) :
    Calls Try.prog 23 (newArgs p pub vars A n c bl bw qs) w fun e w' => NewPost ⟨p, pub, vars, rows.length, bl, bw, qs⟩ e ∧ Below w.heap.size w w' := by
  by_cases hbad : parBad bl bw qs
  · exact (pNew_bad p pub vars A n c rows bl bw qs w hr ht hbad).mono fun _ _ h => ⟨⟨_, _, h.1, .inl ⟨by decide, rfl, (newErr_bad hbad).symm⟩⟩, h.2⟩
  · have hpv : 0 ≤ pub ∧ pub < vars := by
      have h := ht
      unfold tabOk at h
      simp only [Bool.and_eq_true, Bool.not_eq_true', decide_eq_false_iff_not] at h
      omega
    unfold parBad at hbad
    obtain ⟨U, rfl⟩ := Int.eq_ofNat_of_zero_le hpv.1
    obtain ⟨V, rfl⟩ := Int.eq_ofNat_of_zero_le (show 0 ≤ vars by omega)
    obtain ⟨b, rfl⟩ := Int.eq_ofNat_of_zero_le (show 0 ≤ bl by omega)
    obtain ⟨q, rfl⟩ := Int.eq_ofNat_of_zero_le (show 0 ≤ qs by omega)
    obtain ⟨v, rfl⟩ := Int.eq_ofNat_of_zero_le (show 0 ≤ bw by omega)
    rw [Int.toNat_natCast] at hbad
    exact pNew_good p U V A n c rows b v q w hr ht (by omega) (by omega) (by omega) (by omega) (by omega) (by omega)
end Go.Proofs.Ytefnagiffllhbaa
