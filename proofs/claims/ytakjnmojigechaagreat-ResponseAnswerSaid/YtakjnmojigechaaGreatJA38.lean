/- A part of the proof: ReA, MFs, Case, ReJ, ReR, ElA, ReM, ReN, ReO, VaA. No condition. -/
import Derived.Test.YtakjnmojigechaaGreatJA16
import Derived.Test.YtakjnmojigechaaGreatJA24
import Derived.Test.YtakjnmojigechaaGreatJA25
import Derived.Test.YtakjnmojigechaaGreatJA23
import Derived.Test.YtakjnmojigechaaGreatJA18
import Derived.Test.YtakjnmojigechaaGreatJA19

namespace Go.Proofs.YtakjnmojigechaaGreat
open Go.RowKit
set_option maxRecDepth 100000 in
set_option maxHeartbeats 1000000 in
theorem fPowers_any (p a n : Nat) (w : World) (hp : okP p = true) (hn : n ≤ 65536) :
    Calls Tryz.prog 55 #[fv p, .int .u64 (a : Int), .int .i64 (n : Int)] w fun e w' => ∃ g, e = .returned (.slice (some ⟨g, 0, none⟩) n n) ∧ w.heap.size ≤ g ∧ Blk w' g 22 (fillC n fun i => a ^ i % p) ∧ Below w.heap.size w w' := by
  obtain ⟨hp1, hp2⟩ := okP_lt hp
  have HV := Lib.hid (fun w => fValid_any p w hp)
  have HR := Lib.hid (fun w => fReduced_any p a w (by omega))
  obtain ⟨F, hF⟩ : ∃ F : Nat → Nat, F = fun i => a ^ i % p := ⟨_, rfl⟩
  obtain ⟨r, hr⟩ : ∃ r, r = a % p := ⟨_, rfl⟩
  have HM := Lib.hid (show ∀ i (w : World), Calls Tryz.prog 118 #[fv p, .int .u64 (F i : Int), .int .u64 (r : Int)] w fun e w' => e = .returned (.int .u64 (F (i + 1) : Int)) ∧ Below w.heap.size w w' from fun i w => by
    have := fmul_any p (a ^ i % p) (a % p) w hp (Nat.mod_lt _ (by omega)) (Nat.mod_lt _ (by omega))
    rw [← Nat.mul_mod, ← Nat.pow_succ] at this
    rw [hF, hr]
    exact this)
  have H0 := Lib.hid (show F 0 = 1 by rw [hF]; show a ^ 0 % p = 1; rw [Nat.pow_zero]; exact Nat.mod_eq_of_lt (by omega))
  rw [← hr] at HR
  rw [← hF]
  have mk := mk_words n (by omega)
  have g0 : (0 : Int) ≤ (n : Int) := by omega
  have g1 : (n : Int) ≤ 65536 := by omega
  unfold fv at *
  have kf := Blk.new w 96 #[.int .u64 (p : Int)]
  have hb0 : Below w.heap.size w (w.alloc (.cells #[.int .u64 (p : Int)] 96)) := (Below.refl _ _).alloc (Nat.le_refl _) _
  clear hp hF hr
  go_enter Tryz.func55, Tryz.ntmps55
  go_wp2_with fail
  generalize w.alloc _ = w1 at kf hb0 ⊢
  refine (HV.out _).mono ?_
  rintro e w2 ⟨rfl, hbx⟩
  replace kf := kf.below hbx kf.lt
  replace hb0 := below_chain hb0 hbx
  clear hbx
  have cf := kf.cell
  go_wp2_with fail
  refine (HR.out _).mono ?_
  rintro e w3 ⟨rfl, hbx⟩
  replace kf := kf.below hbx kf.lt
  replace hb0 := below_chain hb0 hbx
  clear hbx cf
  go_wp2_with fail
  have kr := Blk.new w3 22 (fillC n fun _ => 0)
  have hbB := (Below.refl w3.heap.size w3).alloc (Nat.le_refl _) (.cells (fillC n fun _ => 0) 22)
  generalize w3.alloc _ = w5 at kr hbB ⊢
  have HZ := Lib.hid (upTo_zero n F fun _ => 0)
  clear mk HR HV
  go_loopw [8, 28] (fun pw y wr => ∃ i : Nat, i ≤ n ∧ y = .int .i64 (i : Int) ∧ pw = .int .u64 (F i : Int) ∧ Blk wr w3.heap.size 22 (fillC n (upTo F (fun _ => 0) i)) ∧ Below w3.heap.size w3 wr) (fun _ y _ => n - (intOf y).toNat)
  case atStart => exact ⟨0, Nat.zero_le _, rfl, by rw [H0.out]; rfl, by rw [HZ.out]; exact kr, hbB⟩
  case round =>
    clear kr hbB
    obtain ⟨i, hi, rfl, rfl, kr, hbB⟩ := hrel
    by_cases hlt : i < n
    · have q1 : (i : Int) < (n : Int) := by omega
      have q2 : (0 : Int) ≤ (i : Int) := by omega
      have cr := kr.cell i
      rw [upTo_get _ _ hlt] at cr
      have fr := kr.frozen
      obtain ⟨x, hx⟩ : ∃ x, x = F i := ⟨_, rfl⟩
      obtain ⟨z, hz⟩ : ∃ z, z = F (i + 1) := ⟨_, rfl⟩
      have HS := Lib.hid (upTo_set (n := n) (G := fun _ => 0) hx)
      have HM1 := Lib.hid (fun w => by have := HM.out i w; rw [← hx, ← hz] at this; exact this)
      have HZ1 := Lib.hid hz
      rw [← hx]
      clear hx hz
      have kf1 := kf.below hbB kf.lt
      have hlf := kf.lt
      have hg := set_only (w := wr) w3.heap.size i (.int .u64 (x : Int))
      have kr2 := kr.set_ i (.int .u64 (x : Int))
      rw [HS.out] at kr2
      have kf2 := kf1.grown hg (fun e => by have := Option.some.inj e; omega)
      have hb2 := hbB.trans (below_of_only hg hbB.size (Nat.le_refl _))
      have cf := kf2.cell
      go_wp2_with fail
      clear cf hg cr fr kf1
      generalize wr.setCell _ _ = w6 at kr2 kf2 hb2 ⊢
      refine (HM1.out _).mono ?_
      rintro e w7 ⟨rfl, hbx⟩
      replace kr2 := kr2.below hbx kr2.lt
      replace hb2 := below_chain hb2 hbx
      go_wp2
      go_roundw
      case rel => exact ⟨i + 1, by omega, by go_num, by rw [← HZ1.out], kr2, hb2⟩
      case measure => simp [intOf]; omega
    · obtain rfl : i = n := by omega
      have q1 : ¬ ((i : Int) < (i : Int)) := by omega
      rw [upTo_all] at kr
      go_wp2
      go_ret
      exact ⟨_, rfl, hb0.size, kr, below_chain hb0 hbB⟩
def dotP (p : Nat) (a b : List Nat) : Nat → Nat
  | 0 => 0
  | k + 1 => (dotP p a b k + a.getD k 0 % p * (b.getD k 0 % p) % p) % p
theorem dotP_lt {p : Nat} (hp : 0 < p) (a b : List Nat) : ∀ k, dotP p a b k < p
  | 0 => hp
  | _ + 1 => Nat.mod_lt _ hp
set_option maxRecDepth 100000 in
set_option maxHeartbeats 1000000 in
theorem fDot_any (p : Nat) (A B : Option Addr) (n c m d : Nat) (a b : List Nat) (w : World) (hp : okP p = true) (ha : RWd w [.slice A n c] a) (hb : RWd w [.slice B m d] b) (hnm : n = m) :
    Calls Tryz.prog 58 #[fv p, .slice A n c, .slice B m d] w fun e w' => e = .returned (.int .u64 (dotP p a b n : Int)) ∧ Below w.heap.size w w' := by
  subst hnm
  obtain ⟨hna, hac, hax, -, hra⟩ := lw_at ha
  obtain ⟨hnb, -, -, -, hrb⟩ := lw_at hb
  have gm := lw_max hac hax
  obtain ⟨hp1, hp2⟩ := okP_lt hp
  have HV := Lib.hid (fun w => fValid_any p w hp)
  have HR := Lib.hid (fun x w => fReduced_any p x w (by omega))
  have HM := Lib.hid (fun x y w hx hy => fmul_any p x y w hp hx hy)
  have HA := Lib.hid (fun x y w hx hy => fadd_any p x y w hp hx hy)
  have HL := Lib.hid (fun x : Nat => Nat.mod_lt x (show 0 < p by omega))
  have HD := Lib.hid (fun k => dotP_lt (p := p) (by omega) a b k)
  obtain ⟨S, hS⟩ : ∃ S, S = dotP p a b := ⟨_, rfl⟩
  rw [← hS] at HD ⊢
  have HS0 := Lib.hid (show S 0 = 0 by rw [hS]; rfl)
  have HSS := Lib.hid (show ∀ k, S (k + 1) = (S k + a.getD k 0 % p * (b.getD k 0 % p) % p) % p from fun k => by rw [hS]; rfl)
  have HNA := Lib.hid hna
  have HNB := Lib.hid hnb
  have hmin : min (n : Int) (n : Int) = (n : Int) := Int.min_self _
  unfold fv at *
  have kf := Blk.new w 96 #[.int .u64 (p : Int)]
  have hb0 : Below w.heap.size w (w.alloc (.cells #[.int .u64 (p : Int)] 96)) := (Below.refl _ _).alloc (Nat.le_refl _) _
  clear hS hna hnb hp ha hb hac hax hp1
  go_enter Tryz.func58, Tryz.ntmps58
  go_wp2_with fail
  generalize w.alloc _ = w1 at kf hb0 ⊢
  refine (HV.out _).mono ?_
  rintro e w2 ⟨rfl, hbx⟩
  replace kf := kf.below hbx kf.lt
  replace hb0 := below_chain hb0 hbx
  clear hbx
  go_wp2_with fail
  go_loopw [7, 17] (fun s y wr => ∃ i : Nat, i ≤ n ∧ y = .int .i64 (i : Int) ∧ s = .int .u64 (S i : Int) ∧ Blk wr w.heap.size 96 #[.int .u64 (p : Int)] ∧ Below w.heap.size w wr) (fun _ y _ => n - (intOf y).toNat)
  case atStart => exact ⟨0, Nat.zero_le _, rfl, by rw [HS0.out]; rfl, kf, hb0⟩
  case round =>
    clear kf hb0
    obtain ⟨i, hi, rfl, rfl, kf, hb0⟩ := hrel
    by_cases hlt : i < n
    · have q1 : (i : Int) < (n : Int) := by omega
      have q2 : (0 : Int) ≤ (i : Int) := by omega
      obtain ⟨b1, q1', rfl, hbl1, hc1⟩ := lw_get (l := a) (A := A) (by rw [← HNA.out]; exact hra) (j := i) (by rw [← HNA.out]; exact hlt)
      obtain ⟨b2, q2', rfl, hbl2, hc2⟩ := lw_get (l := b) (A := B) (by rw [← HNB.out]; exact hrb) (j := i) (by rw [← HNB.out]; exact hlt)
      have c1 := (hb0.cell (p := ⟨b1, q1' + i, none⟩) hbl1).trans hc1
      have c2 := (hb0.cell (p := ⟨b2, q2' + i, none⟩) hbl2).trans hc2
      have HSi := Lib.hid (HSS.out i)
      obtain ⟨x, hx⟩ : ∃ x, x = a.getD i 0 := ⟨_, rfl⟩
      obtain ⟨y, hy⟩ : ∃ y, y = b.getD i 0 := ⟨_, rfl⟩
      rw [← hx] at c1 HSi
      rw [← hy] at c2 HSi
      obtain ⟨x1, hx1⟩ : ∃ x1, x1 = x % p := ⟨_, rfl⟩
      obtain ⟨y1, hy1⟩ : ∃ y1, y1 = y % p := ⟨_, rfl⟩
      obtain ⟨z, hz⟩ : ∃ z, z = x1 * y1 % p := ⟨_, rfl⟩
      obtain ⟨s, hs⟩ : ∃ s, s = S i := ⟨_, rfl⟩
      obtain ⟨s1, hs1⟩ : ∃ s1, s1 = (s + z) % p := ⟨_, rfl⟩
      rw [← hx1, ← hy1, ← hz, ← hs, ← hs1] at HSi
      have HX := Lib.hid (fun w => by have := HR.out x w; rw [← hx1] at this; exact this)
      have HY := Lib.hid (fun w => by have := HR.out y w; rw [← hy1] at this; exact this)
      have HZ := Lib.hid (fun w => by have := HM.out x1 y1 w (by rw [hx1]; exact HL.out _) (by rw [hy1]; exact HL.out _); rw [← hz] at this; exact this)
      have HW := Lib.hid (fun w => by have := HA.out s z w (by rw [hs]; exact HD.out _) (by rw [hz]; exact HL.out _); rw [← hs1] at this; exact this)
      rw [← hs]
      have cf := kf.cell
      have lf := kf.lt
      clear hx hy hx1 hy1 hz hs hs1 hc1 hc2
      have lb1 : b1 < wr.heap.size := World.block_lt_of_cell? _ _ c1
      have lb2 : b2 < wr.heap.size := World.block_lt_of_cell? _ _ c2
      go_upto_region 7 with fail
      refine wpO_begin (Later) [8, 14, 15, 16] [0, 1, 2, 3, 4, 5, 6, 7, 9, 10, 11, 12, 13, 8, 14, 15, 16, 17] (by kernel_rfl) (by kernel_rfl) ?_
      refine wpO_startK (later_moves) ?_
      intro Wc HWc hacc
      have hbW : Below wr.heap.size wr Wc := by rw [HWc.out]; exact (Below.refl _ _).drew
      repeat (first | (refine wpO_skip (later_moves) rfl rfl (fun _ _ _ h => h) ?_ ; simp only [Act.put, List.setIfInBounds_toArray, List.set_cons_zero, List.set_cons_succ]) | (refine wpO_light (v := ?_) (later_moves) rfl rfl (fun _ _ _ h => h) ?_ ?_ ; rotate_left ; (· (intro w' hR ; (first | have hcells := later_cellsD ((later_moves).trans _ _ _ hacc hR) | skip) ; go_simp ; try with_reducible rfl)) ; simp only [Act.put, List.setIfInBounds_toArray, List.set_cons_zero, List.set_cons_succ]))
      refine wpO_call (later_moves) rfl rfl rfl (fun _ => by go_simp <;> rfl) ((HX.out _).mono ?_)
      rintro e w4 ⟨rfl, hbx⟩
      refine ⟨_, rfl, hbx, ?_⟩
      replace hacc := (later_moves).trans _ _ _ hacc (hbx)
      simp only [Act.put, List.setIfInBounds_toArray, List.set_cons_zero, List.set_cons_succ]
      repeat (first | (refine wpO_skip (later_moves) rfl rfl (fun _ _ _ h => h) ?_ ; simp only [Act.put, List.setIfInBounds_toArray, List.set_cons_zero, List.set_cons_succ]) | (refine wpO_light (v := ?_) (later_moves) rfl rfl (fun _ _ _ h => h) ?_ ?_ ; rotate_left ; (· (intro w' hR ; (first | have hcells := later_cellsD ((later_moves).trans _ _ _ hacc hR) | skip) ; go_simp ; try with_reducible rfl)) ; simp only [Act.put, List.setIfInBounds_toArray, List.set_cons_zero, List.set_cons_succ]))
      refine wpO_call (later_moves) rfl rfl rfl (fun _ => by go_simp <;> rfl) ((HY.out _).mono ?_)
      rintro e w5 ⟨rfl, hby⟩
      refine ⟨_, rfl, hby, ?_⟩
      replace hacc := (later_moves).trans _ _ _ hacc (hby)
      simp only [Act.put, List.setIfInBounds_toArray, List.set_cons_zero, List.set_cons_succ]
      repeat (first | (refine wpO_skip (later_moves) rfl rfl (fun _ _ _ h => h) ?_ ; simp only [Act.put, List.setIfInBounds_toArray, List.set_cons_zero, List.set_cons_succ]) | (refine wpO_light (v := ?_) (later_moves) rfl rfl (fun _ _ _ h => h) ?_ ?_ ; rotate_left ; (· (intro w' hR ; (first | have hcells := later_cellsD ((later_moves).trans _ _ _ hacc hR) | skip) ; go_simp ; try with_reducible rfl)) ; simp only [Act.put, List.setIfInBounds_toArray, List.set_cons_zero, List.set_cons_succ]))
      refine wpO_call (later_moves) rfl rfl rfl (fun _ => by go_simp <;> rfl) ((HZ.out _).mono ?_)
      rintro e w6 ⟨rfl, hbz⟩
      refine ⟨_, rfl, hbz, ?_⟩
      replace hacc := (later_moves).trans _ _ _ hacc (hbz)
      simp only [Act.put, List.setIfInBounds_toArray, List.set_cons_zero, List.set_cons_succ]
      repeat (first | (refine wpO_skip (later_moves) rfl rfl (fun _ _ _ h => h) ?_ ; simp only [Act.put, List.setIfInBounds_toArray, List.set_cons_zero, List.set_cons_succ]) | (refine wpO_light (v := ?_) (later_moves) rfl rfl (fun _ _ _ h => h) ?_ ?_ ; rotate_left ; (· (intro w' hR ; (first | have hcells := later_cellsD ((later_moves).trans _ _ _ hacc hR) | skip) ; go_simp ; try with_reducible rfl)) ; simp only [Act.put, List.setIfInBounds_toArray, List.set_cons_zero, List.set_cons_succ]))
      refine wpO_call (later_moves) rfl rfl rfl (fun _ => by go_simp <;> rfl) ((HW.out _).mono ?_)
      rintro e w7 ⟨rfl, hbw⟩
      refine ⟨_, rfl, hbw, ?_⟩
      replace hacc := (later_moves).trans _ _ _ hacc (hbw)
      simp only [Act.put, List.setIfInBounds_toArray, List.set_cons_zero, List.set_cons_succ]
      repeat (first | (refine wpO_skip (later_moves) rfl rfl (fun _ _ _ h => h) ?_ ; simp only [Act.put, List.setIfInBounds_toArray, List.set_cons_zero, List.set_cons_succ]) | (refine wpO_light (v := ?_) (later_moves) rfl rfl (fun _ _ _ h => h) ?_ ?_ ; rotate_left ; (· (intro w' hR ; (first | have hcells := later_cellsD ((later_moves).trans _ _ _ hacc hR) | skip) ; go_simp ; try with_reducible rfl)) ; simp only [Act.put, List.setIfInBounds_toArray, List.set_cons_zero, List.set_cons_succ]))
      refine wpO_done ?_
      have hbb := below_chain (below_chain (below_chain (below_chain hbW hbx) hby) hbz) hbw
      replace kf := kf.below hbb kf.lt
      replace hb0 := below_chain hb0 hbb
      clear hbb hbW hbx hby hbz hbw hacc HWc cf lf c1 c2 lb1 lb2
      go_wp2_with fail
      go_roundw
      case rel => exact ⟨i + 1, by omega, by go_num, by rw [HSi.out], kf, hb0⟩
      case measure => simp [intOf]; omega
    · obtain rfl : i = n := by omega
      have q1 : ¬ ((i : Int) < (i : Int)) := by omega
      go_wp2
      go_ret
      exact ⟨rfl, hb0⟩
theorem made_rows (n : Nat) : madeCells (Value.slice none 0 0).cells (n * 1) = Array.replicate n (.slice none 0 0) := by
  apply Array.toList_inj.1
  rw [show (Value.slice none 0 0).cells = #[.slice none 0 0] from rfl, toList_madeCells_one]
  simp
theorem cellsOf_case24 : Tryz.prog.cellsOf 30 = 8 := by kernel_rfl
theorem cellsOf_params : Tryz.prog.cellsOf 27 = 3 := by kernel_rfl
structure CaseIn (w : World) (p : Nat) (pub vars : Int) (A B : Option Addr) (n c m d : Nat) (rows : List RowR) (ws : List Nat) : Prop where
  p : p < 18446744073709551616
  rows : RSl 3 RRow w [.slice A n c] rows
  ws : RWd w [.slice B m d] ws
theorem fits_case24 {w : World} {cs : List Value} (hl : cs.length = 8) (h : Fits Tryz.prog w 30 cs) : ∃ (p : Nat) (pub vars : Int) (A B : Option Addr) (n c m d : Nat) (rows : List RowR) (ws : List Nat) (bl bw qs : Int), cs = (caseCs p pub vars (.slice A n c) bl bw qs (.slice B m d)).toList ∧ CaseIn w p pub vars A B n c m d rows ws := by
  match cs, hl with
  | [x0, x1, x2, x3, x4, x5, x6, x7], _ =>
    obtain ⟨t, y, ht, h1, h2, h3, h4⟩ := fits_RTab rfl (fits_field (i := 0) Tryz.underlying30 rfl rfl cellsOf_tab h)
    have hx := fits_field (i := 1) Tryz.underlying30 rfl rfl cellsOf_params h
    obtain ⟨a, ha, -⟩ := fits_i64 Tryz.underlying3 (fits_field (i := 0) Tryz.underlying27 rfl rfl cellsOf_int hx)
    obtain ⟨b, hb, -⟩ := fits_i64 Tryz.underlying3 (fits_field (i := 1) Tryz.underlying27 rfl rfl cellsOf_int hx)
    obtain ⟨e, he, -⟩ := fits_i64 Tryz.underlying3 (fits_field (i := 2) Tryz.underlying27 rfl rfl cellsOf_int hx)
    obtain ⟨ws, hw⟩ := fits_RWd Tryz.underlying28 Tryz.underlying22 cellsOf_u64 (fits_field (i := 2) Tryz.underlying30 rfl rfl cellsOf_words h)
    simp at ht ha hb he hw
    obtain ⟨rfl, rfl, rfl, rfl⟩ := ht
    subst ha hb he
    obtain ⟨A, n, c, rfl⟩ := RSl.slc h4
    have hw2 := hw
    obtain ⟨B, m, d, he, -⟩ := hw
    simp at he
    subst he
    exact ⟨t.p, t.pub, t.vars, A, B, n, c, m, d, t.rows, ws, a, b, e, rfl, h1, h4, hw2⟩
def subP (p : Nat) (a b : List Nat) : List Nat := addP p a (scaleP p b (negP p 1))
set_option maxRecDepth 100000 in
set_option maxHeartbeats 1000000 in
theorem rSubP_any (p : Nat) (A B : Option Addr) (n c m d : Nat) (a b : List Nat) (w : World) (hp : okP p = true) (ha : RWd w [.slice A n c] a) (hb : RWd w [.slice B m d] b) (hn : n ≤ 100000) (hm : m ≤ 100000) :
    Calls Tryz.prog 107 #[.int .u64 p, .slice A n c, .slice B m d] w fun e w' => ∃ v, e = .returned v ∧ RWd w' [v] (subP p a b) ∧ Below w.heap.size w w' := by
  have hbl := (lw_at hb).1
  have HN := Lib.hid (fun w => rNeg_any p 1 w hp)
  have HSc := Lib.hid (fun A n c s l w hl hn => rScale_any p A n c s l w hp hl hn)
  have HA := Lib.hid (fun A B n c m d a b w ha hb hn hm => rAddP_any p A B n c m d a b w hp ha hb hn hm)
  have HL := Lib.hid (show (scaleP p b (negP p 1)).length ≤ 100000 by have := scaleP_len p b (negP p 1); omega)
  obtain ⟨x, hx⟩ : ∃ x, x = negP p 1 := ⟨_, rfl⟩
  unfold subP
  rw [← hx] at HN HL ⊢
  clear hx hbl hp
  go_enter Tryz.func107, Tryz.ntmps107
  go_wp2_with fail
  refine (HN.out _).mono ?_
  rintro e w1 ⟨rfl, hb1⟩
  have ha1 := kept_RWd _ _ _ _ hb1 ha
  have hb1' := kept_RWd _ _ _ _ hb1 hb
  go_wp2_with fail
  refine (HSc.out _ _ _ x _ _ hb1' (by omega)).mono ?_
  rintro e w2 ⟨v2, rfl, h2, hb2⟩
  have ha2 := kept_RWd _ _ _ _ hb2 ha1
  obtain ⟨A2, c2, rfl⟩ := rwd_form h2
  go_wp2_with fail
  refine (HA.out _ _ _ _ _ _ _ _ _ ha2 h2 (by omega) (by have := HL.out; omega)).mono ?_
  rintro e w3 ⟨v3, rfl, h3, hb3⟩
  go_wp2
  go_ret
  exact ⟨_, rfl, h3, below_chain (below_chain hb1 hb2) hb3⟩
def codeD (p : Nat) (rows : List (List Nat)) (al : Nat) : Nat → List Nat
  | 0 => []
  | i + 1 => addP p (codeD p rows al i) (scaleP p (rows.getD i []) (powR p al (i + 1)))
def linD (p : Nat) (rows ws : List (List Nat)) : Nat → List Nat
  | 0 => []
  | i + 1 => addP p (linD p rows ws i) (mulP p (ws.getD i []) (rows.getD i []))
def gapD (p a b : Nat) (rows : List (List Nat)) (j : Nat) : List Nat := subP p (mulP p (rows.getD (a + j) []) (rows.getD (a + b + j) [])) (rows.getD (a + b + b + j) [])
def quadD (p a b : Nat) (rows : List (List Nat)) (be : Nat) : Nat → List Nat
  | 0 => []
  | j + 1 => addP p (quadD p a b rows be j) (scaleP p (gapD p a b rows j) (powR p be (j + 1)))
theorem getD_row {rows : List (List Nat)} {M : Nat} (h : ∀ r ∈ rows, r.length ≤ M) (i : Nat) : (rows.getD i []).length ≤ M := by
  rw [List.getD_eq_getElem?_getD]
  by_cases hi : i < rows.length
  · rw [List.getElem?_eq_getElem hi]; exact h _ (List.getElem_mem hi)
  · rw [List.getElem?_eq_none (by omega)]; exact Nat.zero_le _
theorem codeD_len {p al M : Nat} {rows : List (List Nat)} (h : ∀ r ∈ rows, r.length ≤ M) : ∀ i, (codeD p rows al i).length ≤ M
  | 0 => Nat.zero_le _
  | i + 1 => by
    have h1 := addP_len p (codeD p rows al i) (scaleP p (rows.getD i []) (powR p al (i + 1)))
    have h2 := scaleP_len p (rows.getD i []) (powR p al (i + 1))
    have h3 := codeD_len (p := p) (al := al) h i
    have h4 := getD_row h i
    rw [codeD]
    omega
theorem linD_len {p M m : Nat} {rows ws : List (List Nat)} (h : ∀ r ∈ rows, r.length ≤ M) (h2 : ∀ r ∈ ws, r.length ≤ m) : ∀ i, (linD p rows ws i).length ≤ m - 1 + M
  | 0 => Nat.zero_le _
  | i + 1 => by
    have h3 := addP_len p (linD p rows ws i) (mulP p (ws.getD i []) (rows.getD i []))
    have h4 := mulP_len p (ws.getD i []) (rows.getD i [])
    have h5 := linD_len (p := p) h h2 i
    have h6 := getD_row h i
    have h7 := getD_row h2 i
    rw [linD]
    omega
theorem subP_len (p : Nat) (a b : List Nat) : (subP p a b).length ≤ max a.length b.length := by
  have h1 := addP_len p a (scaleP p b (negP p 1))
  have h2 := scaleP_len p b (negP p 1)
  unfold subP
  omega
theorem gapD_len {p a b M : Nat} {rows : List (List Nat)} (h : ∀ r ∈ rows, r.length ≤ M) (j : Nat) : (gapD p a b rows j).length ≤ M - 1 + M := by
  have h1 := subP_len p (mulP p (rows.getD (a + j) []) (rows.getD (a + b + j) [])) (rows.getD (a + b + b + j) [])
  have h2 := mulP_len p (rows.getD (a + j) []) (rows.getD (a + b + j) [])
  have h3 := getD_row h (a + j)
  have h4 := getD_row h (a + b + j)
  have h5 := getD_row h (a + b + b + j)
  unfold gapD
  omega
theorem quadD_len {p a b be M : Nat} {rows : List (List Nat)} (h : ∀ r ∈ rows, r.length ≤ M) : ∀ i, (quadD p a b rows be i).length ≤ M - 1 + M
  | 0 => Nat.zero_le _
  | i + 1 => by
    have h1 := addP_len p (quadD p a b rows be i) (scaleP p (gapD p a b rows i) (powR p be (i + 1)))
    have h2 := scaleP_len p (gapD p a b rows i) (powR p be (i + 1))
    have h3 := quadD_len (p := p) (a := a) (b := b) (be := be) h i
    have h4 := gapD_len (p := p) (a := a) (b := b) h i
    rw [quadD]
    omega
theorem rwd_nil' (w : World) : RWd w [.slice none 0 0] [] := ⟨none, 0, 0, rfl, Nat.le_refl _, by simp [maxLen], ⟨rfl, fun h => absurd h (by omega)⟩, fun x hx => by cases hx⟩
theorem getD_at {rows : List (List Nat)} {i : Nat} (h : i < rows.length) : rows.getD i [] = rows[i] := by rw [List.getD_eq_getElem?_getD, List.getElem?_eq_getElem h]; rfl
set_option maxRecDepth 100000 in
set_option maxHeartbeats 1000000 in
theorem rCode26_any (L : LayR) (A : Option Addr) (n c al : Nat) (rows : List (List Nat)) (w : World) (hL : LayOk L) (hr : RRows w [.slice A n c] rows) (hrl : ∀ r ∈ rows, r.length ≤ 1000) :
    Calls Tryz.prog 45 #[.agg (layCs L), .slice A n c, .int .u64 (al : Int)] w fun e w' => ∃ v, e = .returned v ∧ RWd w' [v] (codeD L.p rows al n) ∧ Below w.heap.size w w' := by
  obtain ⟨hna, hac, hax, hra⟩ := rows_at hr
  have gm := lw_max hac hax
  have HM := Lib.hid (fun x y w => rMul_any L.p x y w hL.p)
  have HSc := Lib.hid (fun A n c s l w hl hn => rScale_any L.p A n c s l w hL.p hl hn)
  have HA := Lib.hid (fun A B n c m d a b w ha hb hn hm => rAddP_any L.p A B n c m d a b w hL.p ha hb hn hm)
  have HLen := Lib.hid (codeD_len (p := L.p) (al := al) hrl)
  have HRL := Lib.hid hrl
  have HSL := Lib.hid (fun a s => scaleP_len L.p a s)
  obtain ⟨D, hD⟩ : ∃ D, D = codeD L.p rows al := ⟨_, rfl⟩
  obtain ⟨P, hP⟩ : ∃ P, P = powR L.p al := ⟨_, rfl⟩
  have HDS := Lib.hid (show ∀ i, D (i + 1) = addP L.p (D i) (scaleP L.p (rows.getD i []) (P (i + 1))) from fun i => by rw [hD, hP]; rfl)
  rw [← hD] at HLen ⊢
  have HD0 := Lib.hid (show D 0 = [] by rw [hD]; rfl)
  have HP0 := Lib.hid (show P 0 = 1 by rw [hP]; rfl)
  have HPS := Lib.hid (show ∀ i, P (i + 1) = P i * al % L.p from fun i => by rw [hP]; rfl)
  have HNA := Lib.hid hna
  clear hD hP hna hac hax hL hr hrl
  unfold layCs at *
  have kl := Blk.new w 39 #[.int .u64 (L.p : Int), .int .i64 (L.block : Int), .int .i64 (L.queries : Int), .int .i64 (L.k : Int), .int .i64 (L.n : Int), .int .i64 (L.secret : Int), .int .i64 (L.rows : Int), .int .i64 (L.a : Int), .int .i64 (L.b : Int), .int .i64 (L.b : Int), .int .i64 (L.b : Int)]
  have hb0 : Below w.heap.size w (w.alloc (.cells #[.int .u64 (L.p : Int), .int .i64 (L.block : Int), .int .i64 (L.queries : Int), .int .i64 (L.k : Int), .int .i64 (L.n : Int), .int .i64 (L.secret : Int), .int .i64 (L.rows : Int), .int .i64 (L.a : Int), .int .i64 (L.b : Int), .int .i64 (L.b : Int), .int .i64 (L.b : Int)] 39)) := (Below.refl _ _).alloc (Nat.le_refl _) _
  go_enter Tryz.func45, Tryz.ntmps45
  go_wp2_with fail
  generalize w.alloc _ = w1 at kl hb0 ⊢
  go_loopw [7, 8, 9] (fun u b y wr => ∃ (i : Nat) (v : Value), v = u ∧ i ≤ n ∧ y = .int .i64 (i : Int) ∧ b = .int .u64 (P i : Int) ∧ RWd wr [v] (D i) ∧ Blk wr w.heap.size 39 #[.int .u64 (L.p : Int), .int .i64 (L.block : Int), .int .i64 (L.queries : Int), .int .i64 (L.k : Int), .int .i64 (L.n : Int), .int .i64 (L.secret : Int), .int .i64 (L.rows : Int), .int .i64 (L.a : Int), .int .i64 (L.b : Int), .int .i64 (L.b : Int), .int .i64 (L.b : Int)] ∧ Below w.heap.size w wr) (fun _ _ y _ => n - (intOf y).toNat)
  case atStart => exact ⟨0, _, rfl, Nat.zero_le _, rfl, by rw [HP0.out]; rfl, by rw [HD0.out]; exact rwd_nil' _, kl, hb0⟩
  case round =>
    clear kl hb0
    obtain ⟨i, v, rfl, hi, rfl, rfl, hv, kl, hb0⟩ := hrel
    by_cases hlt : i < n
    · have q1 : (i : Int) < (n : Int) := by omega
      have q2 : (0 : Int) ≤ (i : Int) := by omega
      have hia : i < rows.length := by rw [HNA.out]; exact hlt
      obtain ⟨b1, q1', A1, n1, c1, rfl, hbl1, hc1, hm1⟩ := rows_get hra hia
      have HDi := Lib.hid (HDS.out i)
      have HPi := Lib.hid (HPS.out i)
      rw [getD_at hia] at HDi
      have hl1 := HRL.out _ (List.getElem_mem hia)
      obtain ⟨x, hx⟩ : ∃ x, x = rows[i] := ⟨_, rfl⟩
      rw [← hx] at hm1 hl1 HDi
      have hn1 := (lw_at hm1).1
      have hm2 := kept_RWd _ _ _ _ hb0 hm1
      obtain ⟨y0, hy0⟩ : ∃ y, y = P i := ⟨_, rfl⟩
      obtain ⟨y1, hy1⟩ : ∃ y, y = P (i + 1) := ⟨_, rfl⟩
      rw [← hy0, ← hy1] at HPi
      rw [← hy1] at HDi
      rw [← hy0]
      have HY1 := Lib.hid hy1
      have HM1 : Hid (∀ w : World, Calls Tryz.prog 101 #[.int .u64 (L.p : Int), .int .u64 (y0 : Int), .int .u64 (al : Int)] w fun e w' => e = .returned (.int .u64 (y1 : Int)) ∧ Below w.heap.size w w') := Lib.hid (fun w => by rw [HPi.out]; exact HM.out y0 al w)
      have HLi := Lib.hid (HLen.out i)
      have HSi := Lib.hid (HSL.out x y1)
      have HL1 := Lib.hid hl1
      have HN1 := Lib.hid hn1
      clear hx hy0 hy1 hl1 hn1 hm1
      obtain ⟨Av, cv, rfl⟩ := rwd_form hv
      have cl := kl.cell
      have ll := kl.lt
      go_wp2_with fail
      refine (HM1.out _).mono ?_
      rintro e w6 ⟨rfl, hbx⟩
      replace kl := kl.below hbx kl.lt
      replace hb0 := below_chain hb0 hbx
      replace hv := kept_RWd _ _ _ _ hbx hv
      replace hm2 := kept_RWd _ _ _ _ hbx hm2
      clear hbx cl ll
      have cc1 := (hb0.cell (p := ⟨b1, q1' + i, none⟩) hbl1).trans hc1
      have lb1 : b1 < w6.heap.size := Nat.lt_of_lt_of_le hbl1 hb0.size
      have cl := kl.cell
      have ll := kl.lt
      go_upto_region 7 with fail
      refine wpO_begin (Later) [10, 11] [0, 1, 2, 3, 4, 5, 6, 7, 8, 9, 10, 11, 12] (by kernel_rfl) (by kernel_rfl) ?_
      refine wpO_startK (later_moves) ?_
      intro Wc HWc hacc
      have hbW : Below w6.heap.size w6 Wc := by rw [HWc.out]; exact (Below.refl _ _).drew
      replace kl := kl.below hbW kl.lt
      replace hb0 := below_chain hb0 hbW
      replace hv := kept_RWd _ _ _ _ hbW hv
      replace hm2 := kept_RWd _ _ _ _ hbW hm2
      repeat (first | (refine wpO_skip (later_moves) rfl rfl (fun _ _ _ h => h) ?_ ; simp only [Act.put, List.setIfInBounds_toArray, List.set_cons_zero, List.set_cons_succ]) | (refine wpO_light (v := ?_) (later_moves) rfl rfl (fun _ _ _ h => h) ?_ ?_ ; rotate_left ; (· (intro w' hR ; (first | have hcells := later_cellsD ((later_moves).trans _ _ _ hacc hR) | skip) ; go_simp ; try with_reducible rfl)) ; simp only [Act.put, List.setIfInBounds_toArray, List.set_cons_zero, List.set_cons_succ]))
      refine wpO_call (later_moves) rfl rfl rfl (fun _ => by go_simp <;> rfl) ((HSc.out _ _ _ _ _ _ hm2 (by have := HL1.out; have := HN1.out; omega)).mono ?_)
      rintro e w7 ⟨v7, rfl, h7, hb7⟩
      refine ⟨_, rfl, hb7, ?_⟩
      replace hacc := (later_moves).trans _ _ _ hacc (hb7)
      simp only [Act.put, List.setIfInBounds_toArray, List.set_cons_zero, List.set_cons_succ]
      replace kl := kl.below hb7 kl.lt
      replace hb0 := below_chain hb0 hb7
      replace hv := kept_RWd _ _ _ _ hb7 hv
      obtain ⟨A7, c7, rfl⟩ := rwd_form h7
      repeat (first | (refine wpO_skip (later_moves) rfl rfl (fun _ _ _ h => h) ?_ ; simp only [Act.put, List.setIfInBounds_toArray, List.set_cons_zero, List.set_cons_succ]) | (refine wpO_light (v := ?_) (later_moves) rfl rfl (fun _ _ _ h => h) ?_ ?_ ; rotate_left ; (· (intro w' hR ; (first | have hcells := later_cellsD ((later_moves).trans _ _ _ hacc hR) | skip) ; go_simp ; try with_reducible rfl)) ; simp only [Act.put, List.setIfInBounds_toArray, List.set_cons_zero, List.set_cons_succ]))
      refine wpO_call (later_moves) rfl rfl rfl (fun _ => by go_simp <;> rfl) ((HA.out _ _ _ _ _ _ _ _ _ hv h7 (by have := HLi.out; omega) (by have := HL1.out; have := HSi.out; omega)).mono ?_)
      rintro e w8 ⟨v8, rfl, h8, hb8⟩
      refine ⟨_, rfl, hb8, ?_⟩
      replace hacc := (later_moves).trans _ _ _ hacc (hb8)
      simp only [Act.put, List.setIfInBounds_toArray, List.set_cons_zero, List.set_cons_succ]
      replace kl := kl.below hb8 kl.lt
      replace hb0 := below_chain hb0 hb8
      repeat (first | (refine wpO_skip (later_moves) rfl rfl (fun _ _ _ h => h) ?_ ; simp only [Act.put, List.setIfInBounds_toArray, List.set_cons_zero, List.set_cons_succ]) | (refine wpO_light (v := ?_) (later_moves) rfl rfl (fun _ _ _ h => h) ?_ ?_ ; rotate_left ; (· (intro w' hR ; (first | have hcells := later_cellsD ((later_moves).trans _ _ _ hacc hR) | skip) ; go_simp ; try with_reducible rfl)) ; simp only [Act.put, List.setIfInBounds_toArray, List.set_cons_zero, List.set_cons_succ]))
      refine wpO_done ?_
      rw [← HDi.out] at h8
      clear hbW hb7 hb8 hacc HWc cc1 lb1 cl ll h7 hv hm2
      go_wp2_with fail
      go_roundw
      case rel => exact ⟨i + 1, _, rfl, by omega, by go_num, by rw [HY1.out], h8, kl, hb0⟩
      case measure => simp [intOf]; omega
    · obtain rfl : i = n := by omega
      have q1 : ¬ ((i : Int) < (i : Int)) := by omega
      go_wp2
      go_ret
      exact ⟨_, rfl, hv, hb0⟩
set_option maxRecDepth 100000 in
set_option maxHeartbeats 1000000 in
theorem rLinear26_any (L : LayR) (A B : Option Addr) (n c m d : Nat) (rows ws : List (List Nat)) (w : World) (hL : LayOk L) (hr : RRows w [.slice A n c] rows) (hs : RRows w [.slice B m d] ws) (hnm : n ≤ m) (hrl : ∀ r ∈ rows, r.length ≤ 1000) (hsl : ∀ r ∈ ws, r.length ≤ 1000) :
    Calls Tryz.prog 47 #[.agg (layCs L), .slice A n c, .slice B m d] w fun e w' => ∃ v, e = .returned v ∧ RWd w' [v] (linD L.p rows ws n) ∧ Below w.heap.size w w' := by
  obtain ⟨hna, hac, hax, hra⟩ := rows_at hr
  obtain ⟨hnb, -, -, hrb⟩ := rows_at hs
  have gm := lw_max hac hax
  have HMu := Lib.hid (fun A B n c m d a b w ha hb hn hm => rMulP_any L.p A B n c m d a b w hL.p ha hb hn hm)
  have HA := Lib.hid (fun A B n c m d a b w ha hb hn hm => rAddP_any L.p A B n c m d a b w hL.p ha hb hn hm)
  have HLen := Lib.hid (linD_len (p := L.p) hrl hsl)
  have HRL := Lib.hid hrl
  have HSL := Lib.hid hsl
  have HML := Lib.hid (fun a b => mulP_len L.p a b)
  obtain ⟨D, hD⟩ : ∃ D, D = linD L.p rows ws := ⟨_, rfl⟩
  have HDS := Lib.hid (show ∀ i, D (i + 1) = addP L.p (D i) (mulP L.p (ws.getD i []) (rows.getD i [])) from fun i => by rw [hD]; rfl)
  rw [← hD] at HLen ⊢
  have HD0 := Lib.hid (show D 0 = [] by rw [hD]; rfl)
  have HNA := Lib.hid hna
  have HNB := Lib.hid hnb
  have HNM := Lib.hid hnm
  have HII := Lib.hid (fun (i : Nat) (h : i < n) => show (i : Int) < (m : Int) by omega)
  clear hD hna hnb hac hax hL hr hs hrl hsl hnm
  unfold layCs at *
  have kl := Blk.new w 39 #[.int .u64 (L.p : Int), .int .i64 (L.block : Int), .int .i64 (L.queries : Int), .int .i64 (L.k : Int), .int .i64 (L.n : Int), .int .i64 (L.secret : Int), .int .i64 (L.rows : Int), .int .i64 (L.a : Int), .int .i64 (L.b : Int), .int .i64 (L.b : Int), .int .i64 (L.b : Int)]
  have hb0 : Below w.heap.size w (w.alloc (.cells #[.int .u64 (L.p : Int), .int .i64 (L.block : Int), .int .i64 (L.queries : Int), .int .i64 (L.k : Int), .int .i64 (L.n : Int), .int .i64 (L.secret : Int), .int .i64 (L.rows : Int), .int .i64 (L.a : Int), .int .i64 (L.b : Int), .int .i64 (L.b : Int), .int .i64 (L.b : Int)] 39)) := (Below.refl _ _).alloc (Nat.le_refl _) _
  go_enter Tryz.func47, Tryz.ntmps47
  go_wp2_with fail
  generalize w.alloc _ = w1 at kl hb0 ⊢
  go_loopw [7, 8] (fun u y wr => ∃ (i : Nat) (v : Value), v = u ∧ i ≤ n ∧ y = .int .i64 (i : Int) ∧ RWd wr [v] (D i) ∧ Blk wr w.heap.size 39 #[.int .u64 (L.p : Int), .int .i64 (L.block : Int), .int .i64 (L.queries : Int), .int .i64 (L.k : Int), .int .i64 (L.n : Int), .int .i64 (L.secret : Int), .int .i64 (L.rows : Int), .int .i64 (L.a : Int), .int .i64 (L.b : Int), .int .i64 (L.b : Int), .int .i64 (L.b : Int)] ∧ Below w.heap.size w wr) (fun _ y _ => n - (intOf y).toNat)
  case atStart => exact ⟨0, _, rfl, Nat.zero_le _, rfl, by rw [HD0.out]; exact rwd_nil' _, kl, hb0⟩
  case round =>
    clear kl hb0
    obtain ⟨i, v, rfl, hi, rfl, hv, kl, hb0⟩ := hrel
    by_cases hlt : i < n
    · have q1 : (i : Int) < (n : Int) := by omega
      have q2 : (0 : Int) ≤ (i : Int) := by omega
      have q3 := HII.out i hlt
      have hia : i < rows.length := by rw [HNA.out]; exact hlt
      have hib : i < ws.length := by rw [HNB.out]; have := HNM.out; omega
      obtain ⟨b1, q1', A1, n1, c1, rfl, hbl1, hc1, hm1⟩ := rows_get hra hia
      obtain ⟨b2, q2', A2, n2, c2, rfl, hbl2, hc2, hm2⟩ := rows_get hrb hib
      have HDi := Lib.hid (HDS.out i)
      rw [getD_at hia, getD_at hib] at HDi
      have hl1 := HRL.out _ (List.getElem_mem hia)
      have hl2 := HSL.out _ (List.getElem_mem hib)
      obtain ⟨x, hx⟩ : ∃ x, x = rows[i] := ⟨_, rfl⟩
      obtain ⟨z, hz⟩ : ∃ z, z = ws[i] := ⟨_, rfl⟩
      rw [← hx] at hm1 hl1 HDi
      rw [← hz] at hm2 hl2 HDi
      have HN1 := Lib.hid (And.intro (lw_at hm1).1 hl1)
      have HN2 := Lib.hid (And.intro (lw_at hm2).1 hl2)
      replace hm1 := kept_RWd _ _ _ _ hb0 hm1
      replace hm2 := kept_RWd _ _ _ _ hb0 hm2
      have HLi := Lib.hid (HLen.out i)
      have HMi := Lib.hid (HML.out z x)
      clear hx hz hl1 hl2
      obtain ⟨Av, cv, rfl⟩ := rwd_form hv
      have cc1 := (hb0.cell (p := ⟨b1, q1' + i, none⟩) hbl1).trans hc1
      have lb1 : b1 < wr.heap.size := Nat.lt_of_lt_of_le hbl1 hb0.size
      have cc2 := (hb0.cell (p := ⟨b2, q2' + i, none⟩) hbl2).trans hc2
      have lb2 : b2 < wr.heap.size := Nat.lt_of_lt_of_le hbl2 hb0.size
      have cl := kl.cell
      have ll := kl.lt
      go_upto_region 5 with fail
      refine wpO_begin (Later) [13, 14] [0, 1, 2, 3, 4, 5, 6, 7, 8, 9, 10, 11, 12, 13, 14, 15] (by kernel_rfl) (by kernel_rfl) ?_
      refine wpO_startK (later_moves) ?_
      intro Wc HWc hacc
      have hbW : Below wr.heap.size wr Wc := by rw [HWc.out]; exact (Below.refl _ _).drew
      replace kl := kl.below hbW kl.lt
      replace hb0 := below_chain hb0 hbW
      replace hv := kept_RWd _ _ _ _ hbW hv
      replace hm1 := kept_RWd _ _ _ _ hbW hm1
      replace hm2 := kept_RWd _ _ _ _ hbW hm2
      repeat (first | (refine wpO_skip (later_moves) rfl rfl (fun _ _ _ h => h) ?_ ; simp only [Act.put, List.setIfInBounds_toArray, List.set_cons_zero, List.set_cons_succ]) | (refine wpO_light (v := ?_) (later_moves) rfl rfl (fun _ _ _ h => h) ?_ ?_ ; rotate_left ; (· (intro w' hR ; (first | have hcells := later_cellsD ((later_moves).trans _ _ _ hacc hR) | skip) ; go_simp ; try with_reducible rfl)) ; simp only [Act.put, List.setIfInBounds_toArray, List.set_cons_zero, List.set_cons_succ]))
      refine wpO_call (later_moves) rfl rfl rfl (fun _ => by go_simp <;> rfl) ((HMu.out _ _ _ _ _ _ _ _ _ hm2 hm1 (by have := HN2.out; omega) (by have := HN1.out; omega)).mono ?_)
      rintro e w7 ⟨v7, rfl, h7, hb7⟩
      refine ⟨_, rfl, hb7, ?_⟩
      replace hacc := (later_moves).trans _ _ _ hacc (hb7)
      simp only [Act.put, List.setIfInBounds_toArray, List.set_cons_zero, List.set_cons_succ]
      replace kl := kl.below hb7 kl.lt
      replace hb0 := below_chain hb0 hb7
      replace hv := kept_RWd _ _ _ _ hb7 hv
      obtain ⟨A7, c7, rfl⟩ := rwd_form h7
      repeat (first | (refine wpO_skip (later_moves) rfl rfl (fun _ _ _ h => h) ?_ ; simp only [Act.put, List.setIfInBounds_toArray, List.set_cons_zero, List.set_cons_succ]) | (refine wpO_light (v := ?_) (later_moves) rfl rfl (fun _ _ _ h => h) ?_ ?_ ; rotate_left ; (· (intro w' hR ; (first | have hcells := later_cellsD ((later_moves).trans _ _ _ hacc hR) | skip) ; go_simp ; try with_reducible rfl)) ; simp only [Act.put, List.setIfInBounds_toArray, List.set_cons_zero, List.set_cons_succ]))
      refine wpO_call (later_moves) rfl rfl rfl (fun _ => by go_simp <;> rfl) ((HA.out _ _ _ _ _ _ _ _ _ hv h7 (by have := HLi.out; omega) (by have := HN1.out; have := HN2.out; have := HMi.out; omega)).mono ?_)
      rintro e w8 ⟨v8, rfl, h8, hb8⟩
      refine ⟨_, rfl, hb8, ?_⟩
      replace hacc := (later_moves).trans _ _ _ hacc (hb8)
      simp only [Act.put, List.setIfInBounds_toArray, List.set_cons_zero, List.set_cons_succ]
      replace kl := kl.below hb8 kl.lt
      replace hb0 := below_chain hb0 hb8
      repeat (first | (refine wpO_skip (later_moves) rfl rfl (fun _ _ _ h => h) ?_ ; simp only [Act.put, List.setIfInBounds_toArray, List.set_cons_zero, List.set_cons_succ]) | (refine wpO_light (v := ?_) (later_moves) rfl rfl (fun _ _ _ h => h) ?_ ?_ ; rotate_left ; (· (intro w' hR ; (first | have hcells := later_cellsD ((later_moves).trans _ _ _ hacc hR) | skip) ; go_simp ; try with_reducible rfl)) ; simp only [Act.put, List.setIfInBounds_toArray, List.set_cons_zero, List.set_cons_succ]))
      refine wpO_done ?_
      rw [← HDi.out] at h8
      clear hbW hb7 hb8 hacc HWc cc1 cc2 lb1 lb2 cl ll h7 hv hm1 hm2
      go_wp2_with fail
      go_roundw
      case rel => exact ⟨i + 1, _, rfl, by omega, by go_num, h8, kl, hb0⟩
      case measure => simp [intOf]; omega
    · obtain rfl : i = n := by omega
      have q1 : ¬ ((i : Int) < (i : Int)) := by omega
      go_wp2
      go_ret
      exact ⟨_, rfl, hv, hb0⟩
set_option maxRecDepth 100000 in
set_option maxHeartbeats 2000000 in
theorem rQuad26_any (L : LayR) (A : Option Addr) (n c be : Nat) (rows : List (List Nat)) (w : World) (hL : LayOk L) (hr : RRows w [.slice A n c] rows) (hrl : ∀ r ∈ rows, r.length ≤ 1000) (hn : L.a + L.b + L.b + L.b = n) :
    Calls Tryz.prog 50 #[.agg (layCs L), .slice A n c, .int .u64 (be : Int)] w fun e w' => ∃ v, e = .returned v ∧ RWd w' [v] (quadD L.p L.a L.b rows be L.b) ∧ Below w.heap.size w w' := by
  obtain ⟨hna, hac, hax, hra⟩ := rows_at hr
  have gm := lw_max hac hax
  have hla := hL.a
  have hlb := hL.b
  have HM := Lib.hid (fun x y w => rMul_any L.p x y w hL.p)
  have HMu := Lib.hid (fun A B n c m d a b w ha hb hn hm => rMulP_any L.p A B n c m d a b w hL.p ha hb hn hm)
  have HSu := Lib.hid (fun A B n c m d a b w ha hb hn hm => rSubP_any L.p A B n c m d a b w hL.p ha hb hn hm)
  have HSc := Lib.hid (fun A n c s l w hl hn => rScale_any L.p A n c s l w hL.p hl hn)
  have HA := Lib.hid (fun A B n c m d a b w ha hb hn hm => rAddP_any L.p A B n c m d a b w hL.p ha hb hn hm)
  have HLen := Lib.hid (quadD_len (p := L.p) (a := L.a) (b := L.b) (be := be) hrl)
  have HRL := Lib.hid hrl
  have HSL := Lib.hid (fun a s => scaleP_len L.p a s)
  have HML := Lib.hid (fun a b => mulP_len L.p a b)
  have HSuL := Lib.hid (fun a b => subP_len L.p a b)
  obtain ⟨D, hD⟩ : ∃ D, D = quadD L.p L.a L.b rows be := ⟨_, rfl⟩
  obtain ⟨P, hP⟩ : ∃ P, P = powR L.p be := ⟨_, rfl⟩
  obtain ⟨y, hy⟩ : ∃ y, y = L.a + L.b := ⟨_, rfl⟩
  obtain ⟨z, hz⟩ : ∃ z, z = L.a + L.b + L.b := ⟨_, rfl⟩
  have HDS := Lib.hid (show ∀ i, D (i + 1) = addP L.p (D i) (scaleP L.p (subP L.p (mulP L.p (rows.getD (L.a + i) []) (rows.getD (y + i) [])) (rows.getD (z + i) [])) (P (i + 1))) from fun i => by rw [hD, hP, hy, hz]; rfl)
  rw [← hD] at HLen ⊢
  have HD0 := Lib.hid (show D 0 = [] by rw [hD]; rfl)
  have HP0 := Lib.hid (show P 0 = 1 by rw [hP]; rfl)
  have HPS := Lib.hid (show ∀ i, P (i + 1) = P i * be % L.p from fun i => by rw [hP]; rfl)
  have e1 : (L.a : Int) + (L.b : Int) = (y : Int) := by omega
  have e2 : IntKind.i64.wrap (y : Int) = (y : Int) := wr_i64 _ (by omega) (by omega)
  have e3 : (y : Int) + (L.b : Int) = (z : Int) := by omega
  have e4 : IntKind.i64.wrap (z : Int) = (z : Int) := wr_i64 _ (by omega) (by omega)
  have HNA := Lib.hid hna
  have HIX := Lib.hid (show ∀ i, i < L.b → L.a + i < n ∧ y + i < n ∧ z + i < n ∧ n ≤ 400000 from fun i hi => by omega)
  have gb : (L.b : Int) ≤ 100000 := by omega
  clear hD hP hna hac hax hL hr hrl hy hz hla hlb hn
  unfold layCs at *
  have kl := Blk.new w 39 #[.int .u64 (L.p : Int), .int .i64 (L.block : Int), .int .i64 (L.queries : Int), .int .i64 (L.k : Int), .int .i64 (L.n : Int), .int .i64 (L.secret : Int), .int .i64 (L.rows : Int), .int .i64 (L.a : Int), .int .i64 (L.b : Int), .int .i64 (L.b : Int), .int .i64 (L.b : Int)]
  have hb0 : Below w.heap.size w (w.alloc (.cells #[.int .u64 (L.p : Int), .int .i64 (L.block : Int), .int .i64 (L.queries : Int), .int .i64 (L.k : Int), .int .i64 (L.n : Int), .int .i64 (L.secret : Int), .int .i64 (L.rows : Int), .int .i64 (L.a : Int), .int .i64 (L.b : Int), .int .i64 (L.b : Int), .int .i64 (L.b : Int)] 39)) := (Below.refl _ _).alloc (Nat.le_refl _) _
  go_enter Tryz.func50, Tryz.ntmps50
  go_upto_region 2 with fail
  generalize w.alloc _ = w1 at kl hb0 ⊢
  have cl := kl.cell
  go_wp2_with fail
  clear cl
  go_loopw [7, 11, 12] (fun u b t wr => ∃ (i : Nat) (v : Value), v = u ∧ i ≤ L.b ∧ t = .int .i64 (i : Int) ∧ b = .int .u64 (P i : Int) ∧ RWd wr [v] (D i) ∧ Blk wr w.heap.size 39 #[.int .u64 (L.p : Int), .int .i64 (L.block : Int), .int .i64 (L.queries : Int), .int .i64 (L.k : Int), .int .i64 (L.n : Int), .int .i64 (L.secret : Int), .int .i64 (L.rows : Int), .int .i64 (L.a : Int), .int .i64 (L.b : Int), .int .i64 (L.b : Int), .int .i64 (L.b : Int)] ∧ Below w.heap.size w wr) (fun _ _ t _ => L.b - (intOf t).toNat)
  case atStart => exact ⟨0, _, rfl, Nat.zero_le _, rfl, by rw [HP0.out]; rfl, by rw [HD0.out]; exact rwd_nil' _, kl, hb0⟩
  case round =>
    clear kl hb0
    obtain ⟨i, v, rfl, hi, rfl, rfl, hv, kl, hb0⟩ := hrel
    by_cases hlt : i < L.b
    · have q1 : (i : Int) < (L.b : Int) := by omega
      obtain ⟨h1, h2, h3, h4⟩ := HIX.out i hlt
      obtain ⟨j1, hj1⟩ : ∃ j, j = L.a + i := ⟨_, rfl⟩
      obtain ⟨j2, hj2⟩ : ∃ j, j = y + i := ⟨_, rfl⟩
      obtain ⟨j3, hj3⟩ : ∃ j, j = z + i := ⟨_, rfl⟩
      have HDi := Lib.hid (HDS.out i)
      rw [← hj1, ← hj2, ← hj3] at HDi
      rw [← hj1] at h1
      rw [← hj2] at h2
      rw [← hj3] at h3
      have f1 : (L.a : Int) + (i : Int) = (j1 : Int) := by omega
      have f2 : (y : Int) + (i : Int) = (j2 : Int) := by omega
      have f3 : (z : Int) + (i : Int) = (j3 : Int) := by omega
      have f4 : IntKind.i64.wrap (j1 : Int) = (j1 : Int) := wr_i64 _ (by omega) (by omega)
      have f5 : IntKind.i64.wrap (j2 : Int) = (j2 : Int) := wr_i64 _ (by omega) (by omega)
      have f6 : IntKind.i64.wrap (j3 : Int) = (j3 : Int) := wr_i64 _ (by omega) (by omega)
      have r1 : (0 : Int) ≤ (j1 : Int) := by omega
      have r2 : (0 : Int) ≤ (j2 : Int) := by omega
      have r3 : (0 : Int) ≤ (j3 : Int) := by omega
      have r4 : (j1 : Int) < (n : Int) := by omega
      have r5 : (j2 : Int) < (n : Int) := by omega
      have r6 : (j3 : Int) < (n : Int) := by omega
      clear hj1 hj2 hj3 h4
      have g1 : j1 < rows.length := by rw [HNA.out]; exact h1
      have g2 : j2 < rows.length := by rw [HNA.out]; exact h2
      have g3 : j3 < rows.length := by rw [HNA.out]; exact h3
      obtain ⟨b1, q1', A1, n1, c1, rfl, hbl, hc1, hm1⟩ := rows_get hra g1
      obtain ⟨b2, q2', A2, n2, c2, hA, -, hc2, hm2⟩ := rows_get hra g2
      injection hA with hA; injection hA with hA1 hA2 hA3; subst hA1 hA2
      obtain ⟨b3, q3', A3, n3, c3, hA, -, hc3, hm3⟩ := rows_get hra g3
      injection hA with hA; injection hA with hA1 hA2 hA3; subst hA1 hA2
      rw [getD_at g1, getD_at g2, getD_at g3] at HDi
      have HPi := Lib.hid (HPS.out i)
      have hl1 := HRL.out _ (List.getElem_mem g1)
      have hl2 := HRL.out _ (List.getElem_mem g2)
      have hl3 := HRL.out _ (List.getElem_mem g3)
      obtain ⟨x1, hx1⟩ : ∃ x, x = rows[j1] := ⟨_, rfl⟩
      obtain ⟨x2, hx2⟩ : ∃ x, x = rows[j2] := ⟨_, rfl⟩
      obtain ⟨x3, hx3⟩ : ∃ x, x = rows[j3] := ⟨_, rfl⟩
      rw [← hx1] at hm1 hl1 HDi
      rw [← hx2] at hm2 hl2 HDi
      rw [← hx3] at hm3 hl3 HDi
      have HN1 := Lib.hid (And.intro (lw_at hm1).1 hl1)
      have HN2 := Lib.hid (And.intro (lw_at hm2).1 hl2)
      have HN3 := Lib.hid (And.intro (lw_at hm3).1 hl3)
      replace hm1 := kept_RWd _ _ _ _ hb0 hm1
      replace hm2 := kept_RWd _ _ _ _ hb0 hm2
      replace hm3 := kept_RWd _ _ _ _ hb0 hm3
      obtain ⟨y0, hy0⟩ : ∃ y, y = P i := ⟨_, rfl⟩
      obtain ⟨y1, hy1⟩ : ∃ y, y = P (i + 1) := ⟨_, rfl⟩
      rw [← hy0, ← hy1] at HPi
      rw [← hy1] at HDi
      rw [← hy0]
      have HY1 := Lib.hid hy1
      have HM1 : Hid (∀ w : World, Calls Tryz.prog 101 #[.int .u64 (L.p : Int), .int .u64 (y0 : Int), .int .u64 (be : Int)] w fun e w' => e = .returned (.int .u64 (y1 : Int)) ∧ Below w.heap.size w w') := Lib.hid (fun w => by rw [HPi.out]; exact HM.out y0 be w)
      have HLi := Lib.hid (HLen.out i)
      have HMi := Lib.hid (HML.out x1 x2)
      obtain ⟨xy, hxy⟩ : ∃ xy, xy = mulP L.p x1 x2 := ⟨_, rfl⟩
      rw [← hxy] at HMi HDi
      have HSi := Lib.hid (HSuL.out xy x3)
      obtain ⟨gp, hgp⟩ : ∃ gp, gp = subP L.p xy x3 := ⟨_, rfl⟩
      rw [← hgp] at HSi HDi
      have HTi := Lib.hid (HSL.out gp y1)
      have HXY := Lib.hid hxy
      have HGP := Lib.hid hgp
      clear hx1 hx2 hx3 hy0 hy1 hl1 hl2 hl3 hxy hgp
      obtain ⟨Av, cv, rfl⟩ := rwd_form hv
      have cl := kl.cell
      have ll := kl.lt
      go_wp2_with fail
      refine (HM1.out _).mono ?_
      rintro e w6 ⟨rfl, hbx⟩
      replace kl := kl.below hbx kl.lt
      replace hb0 := below_chain hb0 hbx
      replace hv := kept_RWd _ _ _ _ hbx hv
      replace hm1 := kept_RWd _ _ _ _ hbx hm1
      replace hm2 := kept_RWd _ _ _ _ hbx hm2
      replace hm3 := kept_RWd _ _ _ _ hbx hm3
      clear hbx cl ll
      have cc1 := (hb0.cell (p := ⟨b1, q1' + j1, none⟩) hbl).trans hc1
      have cc2 := (hb0.cell (p := ⟨b1, q1' + j2, none⟩) hbl).trans hc2
      have cc3 := (hb0.cell (p := ⟨b1, q1' + j3, none⟩) hbl).trans hc3
      have lb1 : b1 < w6.heap.size := Nat.lt_of_lt_of_le hbl hb0.size
      have cl := kl.cell
      have ll := kl.lt
      go_upto_region 10 with fail
      refine wpO_begin (Later) [16, 23] [0, 1, 2, 3, 4, 5, 6, 7, 8, 9, 10, 11, 12, 13, 14, 15, 17, 18, 19, 20, 21, 22, 16, 23, 24] (by kernel_rfl) (by kernel_rfl) ?_
      refine wpO_startK (later_moves) ?_
      intro Wc HWc hacc
      have hbW : Below w6.heap.size w6 Wc := by rw [HWc.out]; exact (Below.refl _ _).drew
      replace kl := kl.below hbW kl.lt
      replace hb0 := below_chain hb0 hbW
      replace hv := kept_RWd _ _ _ _ hbW hv
      replace hm1 := kept_RWd _ _ _ _ hbW hm1
      replace hm2 := kept_RWd _ _ _ _ hbW hm2
      replace hm3 := kept_RWd _ _ _ _ hbW hm3
      repeat (first | (refine wpO_skip (later_moves) rfl rfl (fun _ _ _ h => h) ?_ ; simp only [Act.put, List.setIfInBounds_toArray, List.set_cons_zero, List.set_cons_succ]) | (refine wpO_light (v := ?_) (later_moves) rfl rfl (fun _ _ _ h => h) ?_ ?_ ; rotate_left ; (· (intro w' hR ; (first | have hcells := later_cellsD ((later_moves).trans _ _ _ hacc hR) | skip) ; go_simp ; try with_reducible rfl)) ; simp only [Act.put, List.setIfInBounds_toArray, List.set_cons_zero, List.set_cons_succ]))
      refine wpO_call (later_moves) rfl rfl rfl (fun _ => by go_simp <;> rfl) ((HMu.out _ _ _ _ _ _ _ _ _ hm1 hm2 (by have := HN1.out; omega) (by have := HN2.out; omega)).mono ?_)
      rintro e w7 ⟨v7, rfl, h7, hb7⟩
      refine ⟨_, rfl, hb7, ?_⟩
      replace hacc := (later_moves).trans _ _ _ hacc (hb7)
      simp only [Act.put, List.setIfInBounds_toArray, List.set_cons_zero, List.set_cons_succ]
      replace kl := kl.below hb7 kl.lt
      replace hb0 := below_chain hb0 hb7
      replace hv := kept_RWd _ _ _ _ hb7 hv
      replace hm3 := kept_RWd _ _ _ _ hb7 hm3
      rw [← HXY.out] at h7
      obtain ⟨A7, c7, rfl⟩ := rwd_form h7
      repeat (first | (refine wpO_skip (later_moves) rfl rfl (fun _ _ _ h => h) ?_ ; simp only [Act.put, List.setIfInBounds_toArray, List.set_cons_zero, List.set_cons_succ]) | (refine wpO_light (v := ?_) (later_moves) rfl rfl (fun _ _ _ h => h) ?_ ?_ ; rotate_left ; (· (intro w' hR ; (first | have hcells := later_cellsD ((later_moves).trans _ _ _ hacc hR) | skip) ; go_simp ; try with_reducible rfl)) ; simp only [Act.put, List.setIfInBounds_toArray, List.set_cons_zero, List.set_cons_succ]))
      refine wpO_call (later_moves) rfl rfl rfl (fun _ => by go_simp <;> rfl) ((HSu.out _ _ _ _ _ _ _ _ _ h7 hm3 (by have := HMi.out; have := HN1.out; have := HN2.out; omega) (by have := HN3.out; omega)).mono ?_)
      rintro e w8 ⟨v8, rfl, h8, hb8⟩
      refine ⟨_, rfl, hb8, ?_⟩
      replace hacc := (later_moves).trans _ _ _ hacc (hb8)
      simp only [Act.put, List.setIfInBounds_toArray, List.set_cons_zero, List.set_cons_succ]
      replace kl := kl.below hb8 kl.lt
      replace hb0 := below_chain hb0 hb8
      replace hv := kept_RWd _ _ _ _ hb8 hv
      repeat (first | (refine wpO_skip (later_moves) rfl rfl (fun _ _ _ h => h) ?_ ; simp only [Act.put, List.setIfInBounds_toArray, List.set_cons_zero, List.set_cons_succ]) | (refine wpO_light (v := ?_) (later_moves) rfl rfl (fun _ _ _ h => h) ?_ ?_ ; rotate_left ; (· (intro w' hR ; (first | have hcells := later_cellsD ((later_moves).trans _ _ _ hacc hR) | skip) ; go_simp ; try with_reducible rfl)) ; simp only [Act.put, List.setIfInBounds_toArray, List.set_cons_zero, List.set_cons_succ]))
      refine wpO_done ?_
      rw [← HGP.out] at h8
      obtain ⟨A8, c8, rfl⟩ := rwd_form h8
      clear hbW hb7 hb8 hacc HWc cc1 cc2 cc3 lb1 cl ll h7 hm1 hm2 hm3
      have cl := kl.cell
      have ll := kl.lt
      go_upto_region 11 with fail
      refine wpO_begin (Later) [7, 8] [0, 1, 2, 3, 4, 5, 6, 7, 8, 9] (by kernel_rfl) (by kernel_rfl) ?_
      refine wpO_startK (later_moves) ?_
      intro Wc HWc hacc
      have hbW : Below w8.heap.size w8 Wc := by rw [HWc.out]; exact (Below.refl _ _).drew
      replace kl := kl.below hbW kl.lt
      replace hb0 := below_chain hb0 hbW
      replace hv := kept_RWd _ _ _ _ hbW hv
      replace h8 := kept_RWd _ _ _ _ hbW h8
      repeat (first | (refine wpO_skip (later_moves) rfl rfl (fun _ _ _ h => h) ?_ ; simp only [Act.put, List.setIfInBounds_toArray, List.set_cons_zero, List.set_cons_succ]) | (refine wpO_light (v := ?_) (later_moves) rfl rfl (fun _ _ _ h => h) ?_ ?_ ; rotate_left ; (· (intro w' hR ; (first | have hcells := later_cellsD ((later_moves).trans _ _ _ hacc hR) | skip) ; go_simp ; try with_reducible rfl)) ; simp only [Act.put, List.setIfInBounds_toArray, List.set_cons_zero, List.set_cons_succ]))
      refine wpO_call (later_moves) rfl rfl rfl (fun _ => by go_simp <;> rfl) ((HSc.out _ _ _ _ _ _ h8 (by have := HSi.out; have := HMi.out; have := HN1.out; have := HN2.out; have := HN3.out; omega)).mono ?_)
      rintro e w9 ⟨v9, rfl, h9, hb9⟩
      refine ⟨_, rfl, hb9, ?_⟩
      replace hacc := (later_moves).trans _ _ _ hacc (hb9)
      simp only [Act.put, List.setIfInBounds_toArray, List.set_cons_zero, List.set_cons_succ]
      replace kl := kl.below hb9 kl.lt
      replace hb0 := below_chain hb0 hb9
      replace hv := kept_RWd _ _ _ _ hb9 hv
      obtain ⟨A9, c9, rfl⟩ := rwd_form h9
      repeat (first | (refine wpO_skip (later_moves) rfl rfl (fun _ _ _ h => h) ?_ ; simp only [Act.put, List.setIfInBounds_toArray, List.set_cons_zero, List.set_cons_succ]) | (refine wpO_light (v := ?_) (later_moves) rfl rfl (fun _ _ _ h => h) ?_ ?_ ; rotate_left ; (· (intro w' hR ; (first | have hcells := later_cellsD ((later_moves).trans _ _ _ hacc hR) | skip) ; go_simp ; try with_reducible rfl)) ; simp only [Act.put, List.setIfInBounds_toArray, List.set_cons_zero, List.set_cons_succ]))
      refine wpO_call (later_moves) rfl rfl rfl (fun _ => by go_simp <;> rfl) ((HA.out _ _ _ _ _ _ _ _ _ hv h9 (by have := HLi.out; omega) (by have := HTi.out; have := HSi.out; have := HMi.out; have := HN1.out; have := HN2.out; have := HN3.out; omega)).mono ?_)
      rintro e w10 ⟨v10, rfl, h10, hb10⟩
      refine ⟨_, rfl, hb10, ?_⟩
      replace hacc := (later_moves).trans _ _ _ hacc (hb10)
      simp only [Act.put, List.setIfInBounds_toArray, List.set_cons_zero, List.set_cons_succ]
      replace kl := kl.below hb10 kl.lt
      replace hb0 := below_chain hb0 hb10
      repeat (first | (refine wpO_skip (later_moves) rfl rfl (fun _ _ _ h => h) ?_ ; simp only [Act.put, List.setIfInBounds_toArray, List.set_cons_zero, List.set_cons_succ]) | (refine wpO_light (v := ?_) (later_moves) rfl rfl (fun _ _ _ h => h) ?_ ?_ ; rotate_left ; (· (intro w' hR ; (first | have hcells := later_cellsD ((later_moves).trans _ _ _ hacc hR) | skip) ; go_simp ; try with_reducible rfl)) ; simp only [Act.put, List.setIfInBounds_toArray, List.set_cons_zero, List.set_cons_succ]))
      refine wpO_done ?_
      rw [← HDi.out] at h10
      clear hbW hb9 hb10 hacc HWc cl ll h8 h9 hv
      go_wp2_with fail
      go_roundw
      case rel => exact ⟨i + 1, _, rfl, by omega, by go_num, by rw [HY1.out], h10, kl, hb0⟩
      case measure => simp [intOf]; omega
    · obtain rfl : i = L.b := by omega
      have q1 : ¬ ((L.b : Int) < (L.b : Int)) := by omega
      have cl := kl.cell
      have ll := kl.lt
      go_wp2
      go_ret
      exact ⟨_, rfl, hv, hb0⟩
def elOk (l : List Nat) (n p : Nat) : Bool := decide (l.length = n) && l.all fun x => decide (x < p)
set_option maxRecDepth 100000 in
set_option maxHeartbeats 400000 in
theorem el1_any (x p B : Nat) (w : World) (hc : w.cell? ⟨B, 0, none⟩ = some (.int .u64 (p : Int))) :
    Calls Tryz.prog 135 #[.int .u64 (x : Int), .pointer (some ⟨B, 0, none⟩)] w fun e w' => e = .returned (.bool (decide (p ≤ x))) ∧ Below w.heap.size w w' := by
  obtain ⟨v, hv⟩ : ∃ v, v = decide (p ≤ x) := ⟨_, rfl⟩
  have e1 : decide ((p : Int) ≤ (x : Int)) = v := by rw [hv]; by_cases h : p ≤ x <;> simp [h]
  rw [← hv]
  have HV := Lib.hid hv.symm
  clear hv
  go_enter Tryz.func135, Tryz.ntmps135
  go_wp2_with fail
  go_ret
  exact ⟨by first | rfl | (simp [HV.out]), Below.refl _ _⟩
theorem all_take {l : List Nat} {p i : Nat} (h : (l.take i).all (fun x => decide (x < p)) = true) (hi : i < l.length) (hx : ¬ p ≤ l.getD i 0) : (l.take (i + 1)).all (fun x => decide (x < p)) = true := by
  rw [lw_snoc l i hi, List.all_append, h]
  have : decide (l.getD i 0 < p) = true := decide_eq_true (by omega)
  rw [List.all_cons, this]
  rfl
theorem all_not {l : List Nat} {p i : Nat} (hi : i < l.length) (hx : p ≤ l.getD i 0) : l.all (fun x => decide (x < p)) = false := by
  rw [List.all_eq_false]
  refine ⟨l.getD i 0, ?_, by rw [decide_eq_true_iff]; omega⟩
  rw [List.getD_eq_getElem?_getD, List.getElem?_eq_getElem hi]
  exact List.getElem_mem _
set_option maxRecDepth 100000 in
set_option maxHeartbeats 1000000 in
theorem idx_any (A : Option Addr) (n c p B : Nat) (l : List Nat) (w : World) (hl : RWd w [.slice A n c] l) (hc : w.cell? ⟨B, 0, none⟩ = some (.int .u64 (p : Int))) :
    Calls Tryz.prog 156 #[.slice A n c, .func (.func 135) #[] #[.pointer (some ⟨B, 0, none⟩)]] w fun e w' => ∃ r : Int, e = .returned (.int .i64 r) ∧ decide (0 ≤ r) = !(l.all fun x => decide (x < p)) ∧ Below w.heap.size w w' := by
  obtain ⟨rfl, h1, h2, hlt, hrd⟩ := lw_at hl
  have gm := lw_max h1 h2
  have lB : B < w.heap.size := World.block_lt_of_cell? _ _ hc
  have HX := Lib.hid (fun x w' (hb : Below w.heap.size w w') => el1_any x p B w' ((hb.cell (p := ⟨B, 0, none⟩) lB).trans hc))
  clear hl h1 h2 hlt hc lB
  obtain ⟨ans, ha⟩ : ∃ ans, ans = !(l.all fun x => decide (x < p)) := ⟨_, rfl⟩
  rw [← ha]
  have HA := Lib.hid ha
  clear ha
  go_enter Tryz.func156, Tryz.ntmps156
  go_wp2_with fail
  go_loopw [5, 8] (fun _ y wr => ∃ i : Nat, i ≤ l.length ∧ y = .int .i64 (i : Int) ∧ Hid ((l.take i).all (fun x => decide (x < p)) = true) ∧ Below w.heap.size w wr) (fun _ y _ => l.length - (intOf y).toNat)
  case atStart => exact ⟨0, Nat.zero_le _, rfl, rfl, Below.refl _ _⟩
  case round =>
    obtain ⟨i, hi, rfl, HT, hbr⟩ := hrel
    by_cases hlt : i < l.length
    · have g1 : (0 : Int) ≤ (i : Int) := by omega
      have g2 : (i : Int) < (l.length : Int) := by omega
      obtain ⟨b, q, rfl, hbl, hc⟩ := lw_get (hrd.below hbr) hlt
      by_cases hx : p ≤ l.getD i 0
      · have HF := Lib.hid (show ans = true by rw [HA.out, all_not hlt hx]; rfl)
        have HC := Lib.hid (by have := HX.out (l.getD i 0) wr hbr; rw [decide_eq_true hx] at this; exact this)
        generalize l.getD i 0 = z at *
        clear hx HT
        go_wp2_with fail
        refine HC.out.mono ?_
        rintro e w1 ⟨rfl, hb1⟩
        go_wp2
        go_ret
        exact ⟨_, rfl, by rw [HF.out]; exact decide_eq_true g1, below_chain hbr hb1⟩
      · have HT2 := Lib.hid (all_take HT.out hlt hx)
        have HC := Lib.hid (by have := HX.out (l.getD i 0) wr hbr; rw [decide_eq_false hx] at this; exact this)
        generalize l.getD i 0 = z at *
        clear hx HT
        go_wp2_with fail
        refine HC.out.mono ?_
        rintro e w1 ⟨rfl, hb1⟩
        replace hbr := below_chain hbr hb1
        clear hc hb1 hbl
        go_wp2
        go_roundw
        case rel => exact ⟨i + 1, by omega, by go_num, HT2.out, hbr⟩
        case measure => simp [intOf]; omega
    · obtain rfl : i = l.length := by omega
      have HF := Lib.hid (show ans = false by rw [HA.out]; have := HT.out; rw [List.take_length] at this; rw [this]; rfl)
      go_wp2
      go_ret
      exact ⟨_, rfl, by rw [HF.out]; rfl, hbr⟩
set_option maxRecDepth 100000 in
set_option maxHeartbeats 400000 in
theorem cont_any (A : Option Addr) (n c p B : Nat) (l : List Nat) (w : World) (hl : RWd w [.slice A n c] l) (hc : w.cell? ⟨B, 0, none⟩ = some (.int .u64 (p : Int))) :
    Calls Tryz.prog 134 #[.slice A n c, .func (.func 135) #[] #[.pointer (some ⟨B, 0, none⟩)]] w fun e w' => e = .returned (.bool (!(l.all fun x => decide (x < p)))) ∧ Below w.heap.size w w' := by
  have HI := Lib.hid (idx_any A n c p B l w hl hc)
  clear hl hc
  generalize (!(l.all fun x => decide (x < p))) = ans at *
  go_enter Tryz.func134, Tryz.ntmps134
  go_wp2_with fail
  refine HI.out.mono ?_
  rintro e w1 ⟨r, rfl, hr, hb1⟩
  go_wp2
  go_ret
  exact ⟨by first | rfl | (simp [hr]), hb1⟩
set_option maxRecDepth 100000 in
set_option maxHeartbeats 400000 in
theorem elem_any (A : Option Addr) (n c m p : Nat) (l : List Nat) (w : World) (hl : RWd w [.slice A n c] l) :
    Calls Tryz.prog 86 #[.slice A n c, .int .i64 (m : Int), .int .u64 (p : Int)] w fun e w' => e = .returned (.bool (elOk l m p)) ∧ Below w.heap.size w w' := by
  have hba : Below w.heap.size w (w.alloc (.cells #[.int .u64 (p : Int)] 22)) := (Below.refl _ _).alloc (Nat.le_refl _) _
  have kb := Blk.new w 22 #[.int .u64 (p : Int)]
  have HC := Lib.hid (cont_any A n c p w.heap.size l (w.alloc (.cells #[.int .u64 (p : Int)] 22)) (kept_RWd _ _ _ _ hba hl) (by rw [kb.cell]; rfl))
  obtain ⟨rfl, h1, h2, hlt, hrd⟩ := lw_at hl
  clear hl h1 h2 hlt hrd kb
  have HE := Lib.hid (show elOk l m p = (decide (l.length = m) && l.all fun x => decide (x < p)) from rfl)
  by_cases hm : l.length = m
  · have HF := Lib.hid (show elOk l m p = l.all fun x => decide (x < p) by rw [HE.out, decide_eq_true hm]; rfl)
    have t1 : ((l.length : Int) == (m : Int)) = true := by rw [beq_iff_eq]; omega
    rw [HF.out]
    clear hm HF HE
    generalize l.length = n at *
    generalize (l.all fun x => decide (x < p)) = v at *
    go_enter Tryz.func86, Tryz.ntmps86
    go_wp2_with fail
    refine HC.out.mono ?_
    rintro e w1 ⟨rfl, hb1⟩
    go_wp2
    go_ret
    exact ⟨by cases v <;> rfl, below_chain hba hb1⟩
  · have HF := Lib.hid (show elOk l m p = false by rw [HE.out, decide_eq_false hm]; rfl)
    have t1 : ((l.length : Int) == (m : Int)) = false := by rw [beq_eq_false_iff_ne]; omega
    rw [HF.out]
    clear hm HF HE HC
    generalize l.length = n at *
    go_enter Tryz.func86, Tryz.ntmps86
    go_wp2_with fail
    go_ret
    exact ⟨rfl, hba⟩
set_option maxRecDepth 100000 in
set_option maxHeartbeats 400000 in
theorem bl1_any (x p B : Nat) (w : World) (hc : w.cell? ⟨B, 0, none⟩ = some (.int .u64 (p : Int))) :
    Calls Tryz.prog 136 #[.int .u64 (x : Int), .pointer (some ⟨B, 0, none⟩)] w fun e w' => e = .returned (.bool (decide (p ≤ x))) ∧ Below w.heap.size w w' := by
  obtain ⟨v, hv⟩ : ∃ v, v = decide (p ≤ x) := ⟨_, rfl⟩
  have e1 : decide ((p : Int) ≤ (x : Int)) = v := by rw [hv]; by_cases h : p ≤ x <;> simp [h]
  rw [← hv]
  have HV := Lib.hid hv.symm
  clear hv
  go_enter Tryz.func136, Tryz.ntmps136
  go_wp2_with fail
  go_ret
  exact ⟨by first | rfl | (simp [HV.out]), Below.refl _ _⟩
set_option maxRecDepth 100000 in
set_option maxHeartbeats 1000000 in
theorem bidx_any (A : Option Addr) (n c p B : Nat) (l : List Nat) (w : World) (hl : RWd w [.slice A n c] l) (hc : w.cell? ⟨B, 0, none⟩ = some (.int .u64 (p : Int))) :
    Calls Tryz.prog 156 #[.slice A n c, .func (.func 136) #[] #[.pointer (some ⟨B, 0, none⟩)]] w fun e w' => ∃ r : Int, e = .returned (.int .i64 r) ∧ decide (0 ≤ r) = !(l.all fun x => decide (x < p)) ∧ Below w.heap.size w w' := by
  obtain ⟨rfl, h1, h2, hlt, hrd⟩ := lw_at hl
  have gm := lw_max h1 h2
  have lB : B < w.heap.size := World.block_lt_of_cell? _ _ hc
  have HX := Lib.hid (fun x w' (hb : Below w.heap.size w w') => bl1_any x p B w' ((hb.cell (p := ⟨B, 0, none⟩) lB).trans hc))
  clear hl h1 h2 hlt hc lB
  obtain ⟨ans, ha⟩ : ∃ ans, ans = !(l.all fun x => decide (x < p)) := ⟨_, rfl⟩
  rw [← ha]
  have HA := Lib.hid ha
  clear ha
  go_enter Tryz.func156, Tryz.ntmps156
  go_wp2_with fail
  go_loopw [5, 8] (fun _ y wr => ∃ i : Nat, i ≤ l.length ∧ y = .int .i64 (i : Int) ∧ Hid ((l.take i).all (fun x => decide (x < p)) = true) ∧ Below w.heap.size w wr) (fun _ y _ => l.length - (intOf y).toNat)
  case atStart => exact ⟨0, Nat.zero_le _, rfl, rfl, Below.refl _ _⟩
  case round =>
    obtain ⟨i, hi, rfl, HT, hbr⟩ := hrel
    by_cases hlt : i < l.length
    · have g1 : (0 : Int) ≤ (i : Int) := by omega
      have g2 : (i : Int) < (l.length : Int) := by omega
      obtain ⟨b, q, rfl, hbl, hc⟩ := lw_get (hrd.below hbr) hlt
      by_cases hx : p ≤ l.getD i 0
      · have HF := Lib.hid (show ans = true by rw [HA.out, all_not hlt hx]; rfl)
        have HC := Lib.hid (by have := HX.out (l.getD i 0) wr hbr; rw [decide_eq_true hx] at this; exact this)
        generalize l.getD i 0 = z at *
        clear hx HT
        go_wp2_with fail
        refine HC.out.mono ?_
        rintro e w1 ⟨rfl, hb1⟩
        go_wp2
        go_ret
        exact ⟨_, rfl, by rw [HF.out]; exact decide_eq_true g1, below_chain hbr hb1⟩
      · have HT2 := Lib.hid (all_take HT.out hlt hx)
        have HC := Lib.hid (by have := HX.out (l.getD i 0) wr hbr; rw [decide_eq_false hx] at this; exact this)
        generalize l.getD i 0 = z at *
        clear hx HT
        go_wp2_with fail
        refine HC.out.mono ?_
        rintro e w1 ⟨rfl, hb1⟩
        replace hbr := below_chain hbr hb1
        clear hc hb1 hbl
        go_wp2
        go_roundw
        case rel => exact ⟨i + 1, by omega, by go_num, HT2.out, hbr⟩
        case measure => simp [intOf]; omega
    · obtain rfl : i = l.length := by omega
      have HF := Lib.hid (show ans = false by rw [HA.out]; have := HT.out; rw [List.take_length] at this; rw [this]; rfl)
      go_wp2
      go_ret
      exact ⟨_, rfl, by rw [HF.out]; rfl, hbr⟩
set_option maxRecDepth 100000 in
set_option maxHeartbeats 400000 in
theorem bcont_any (A : Option Addr) (n c p B : Nat) (l : List Nat) (w : World) (hl : RWd w [.slice A n c] l) (hc : w.cell? ⟨B, 0, none⟩ = some (.int .u64 (p : Int))) :
    Calls Tryz.prog 134 #[.slice A n c, .func (.func 136) #[] #[.pointer (some ⟨B, 0, none⟩)]] w fun e w' => e = .returned (.bool (!(l.all fun x => decide (x < p)))) ∧ Below w.heap.size w w' := by
  have HI := Lib.hid (bidx_any A n c p B l w hl hc)
  clear hl hc
  generalize (!(l.all fun x => decide (x < p))) = ans at *
  go_enter Tryz.func134, Tryz.ntmps134
  go_wp2_with fail
  refine HI.out.mono ?_
  rintro e w1 ⟨r, rfl, hr, hb1⟩
  go_wp2
  go_ret
  exact ⟨by first | rfl | (simp [hr]), hb1⟩
set_option maxRecDepth 100000 in
set_option maxHeartbeats 400000 in
theorem below26_any (L : LayR) (A : Option Addr) (n c : Nat) (l : List Nat) (w : World) (hl : RWd w [.slice A n c] l) :
    Calls Tryz.prog 88 #[.agg (layCs L), .slice A n c] w fun e w' => e = .returned (.bool (l.all fun x => decide (x < L.p))) ∧ Below w.heap.size w w' := by
  unfold layCs
  have hba : Below w.heap.size w (w.alloc (.cells #[.int .u64 (L.p : Int), .int .i64 (L.block : Int), .int .i64 (L.queries : Int), .int .i64 (L.k : Int), .int .i64 (L.n : Int), .int .i64 (L.secret : Int), .int .i64 (L.rows : Int), .int .i64 (L.a : Int), .int .i64 (L.b : Int), .int .i64 (L.b : Int), .int .i64 (L.b : Int)] 55)) := (Below.refl _ _).alloc (Nat.le_refl _) _
  have kb := Blk.new w 55 #[.int .u64 (L.p : Int), .int .i64 (L.block : Int), .int .i64 (L.queries : Int), .int .i64 (L.k : Int), .int .i64 (L.n : Int), .int .i64 (L.secret : Int), .int .i64 (L.rows : Int), .int .i64 (L.a : Int), .int .i64 (L.b : Int), .int .i64 (L.b : Int), .int .i64 (L.b : Int)]
  have HC := Lib.hid (bcont_any A n c L.p w.heap.size l (w.alloc (.cells #[.int .u64 (L.p : Int), .int .i64 (L.block : Int), .int .i64 (L.queries : Int), .int .i64 (L.k : Int), .int .i64 (L.n : Int), .int .i64 (L.secret : Int), .int .i64 (L.rows : Int), .int .i64 (L.a : Int), .int .i64 (L.b : Int), .int .i64 (L.b : Int), .int .i64 (L.b : Int)] 55)) (kept_RWd _ _ _ _ hba hl) (by rw [kb.cell]; rfl))
  clear hl kb
  generalize (l.all fun x => decide (x < L.p)) = v at *
  go_enter Tryz.func88, Tryz.ntmps88
  go_wp2_with fail
  refine HC.out.mono ?_
  rintro e w1 ⟨rfl, hb1⟩
  go_wp2
  go_ret
  exact ⟨by cases v <;> rfl, below_chain hba hb1⟩
def fitOk (L : LayR) (a b c : List Nat) : Bool :=
  decide (a.length = L.k) && decide (b.length = L.k + L.block - 1) && decide (c.length = 2 * L.k - 1) && (a.all fun x => decide (x < L.p)) && (b.all fun x => decide (x < L.p)) && (c.all fun x => decide (x < L.p))
set_option maxRecDepth 100000 in
set_option maxHeartbeats 2000000 in
theorem fit_any (L : LayR) (A B C : Option Addr) (n1 c1 n2 c2 n3 c3 : Nat) (a b c : List Nat) (w : World) (hL : LayOk L) (ha : RWd w [.slice A n1 c1] a) (hb : RWd w [.slice B n2 c2] b) (hc : RWd w [.slice C n3 c3] c) (hn : n1 = a.length ∧ n2 = b.length ∧ n3 = c.length) :
    Calls Tryz.prog 87 #[.agg (layCs L), .slice A n1 c1, .slice B n2 c2, .slice C n3 c3] w fun e w' => e = .returned (.bool (fitOk L a b c)) ∧ Below w.heap.size w w' := by
  obtain ⟨rfl, rfl, rfl⟩ := hn
  have hb1 := hL.b1
  have hb2 := hL.b2
  have hq1 := hL.q1
  have hq2 := hL.q2
  have hk := hL.k
  have HA := Lib.hid (fun w' (h : Below w.heap.size w w') => below26_any L A a.length c1 a w' (kept_RWd _ _ _ _ h ha))
  have HB := Lib.hid (fun w' (h : Below w.heap.size w w') => below26_any L B b.length c2 b w' (kept_RWd _ _ _ _ h hb))
  have HC := Lib.hid (fun w' (h : Below w.heap.size w w') => below26_any L C c.length c3 c w' (kept_RWd _ _ _ _ h hc))
  obtain ⟨t1, ht1⟩ : ∃ t1, t1 = L.k + L.block := ⟨_, rfl⟩
  obtain ⟨t2, ht2⟩ : ∃ t2, t2 = L.k + L.block - 1 := ⟨_, rfl⟩
  obtain ⟨t3, ht3⟩ : ∃ t3, t3 = 2 * L.k := ⟨_, rfl⟩
  obtain ⟨t4, ht4⟩ : ∃ t4, t4 = 2 * L.k - 1 := ⟨_, rfl⟩
  have e1 : (L.k : Int) + (L.block : Int) = (t1 : Int) := by omega
  have e2 : IntKind.i64.wrap (t1 : Int) = (t1 : Int) := wr_i64 _ (by omega) (by omega)
  have e3 : (t1 : Int) - 1 = (t2 : Int) := by omega
  have e4 : IntKind.i64.wrap (t2 : Int) = (t2 : Int) := wr_i64 _ (by omega) (by omega)
  have e5 : (2 : Int) * (L.k : Int) = (t3 : Int) := by omega
  have e6 : IntKind.i64.wrap (t3 : Int) = (t3 : Int) := wr_i64 _ (by omega) (by omega)
  have e7 : (t3 : Int) - 1 = (t4 : Int) := by omega
  have e8 : IntKind.i64.wrap (t4 : Int) = (t4 : Int) := wr_i64 _ (by omega) (by omega)
  have HE := Lib.hid (show fitOk L a b c = (decide (a.length = L.k) && decide (b.length = t2) && decide (c.length = t4) && (a.all fun x => decide (x < L.p)) && (b.all fun x => decide (x < L.p)) && (c.all fun x => decide (x < L.p))) by rw [ht2, ht4]; rfl)
  clear ht1 ht2 ht3 ht4 hb1 hb2 hq1 hq2 hk hL ha hb hc
  generalize (a.all fun x => decide (x < L.p)) = b1 at *
  generalize (b.all fun x => decide (x < L.p)) = b2 at *
  generalize (c.all fun x => decide (x < L.p)) = b3 at *
  obtain ⟨R, hR⟩ : ∃ R, R = fitOk L a b c := ⟨_, rfl⟩
  rw [← hR] at HE ⊢
  clear hR
  generalize a.length = n1 at *
  generalize b.length = n2 at *
  generalize c.length = n3 at *
  unfold layCs at *
  have hb0 : Below w.heap.size w (w.alloc (.cells #[.int .u64 (L.p : Int), .int .i64 (L.block : Int), .int .i64 (L.queries : Int), .int .i64 (L.k : Int), .int .i64 (L.n : Int), .int .i64 (L.secret : Int), .int .i64 (L.rows : Int), .int .i64 (L.a : Int), .int .i64 (L.b : Int), .int .i64 (L.b : Int), .int .i64 (L.b : Int)] 55)) := (Below.refl _ _).alloc (Nat.le_refl _) _
  have kl := Blk.new w 55 #[.int .u64 (L.p : Int), .int .i64 (L.block : Int), .int .i64 (L.queries : Int), .int .i64 (L.k : Int), .int .i64 (L.n : Int), .int .i64 (L.secret : Int), .int .i64 (L.rows : Int), .int .i64 (L.a : Int), .int .i64 (L.b : Int), .int .i64 (L.b : Int), .int .i64 (L.b : Int)]
  by_cases h1 : n1 = L.k
  rotate_left
  · have d1 : ((n1 : Int) != (L.k : Int)) = true := by simp; omega
    have HF := Lib.hid (show R = false by rw [HE.out, decide_eq_false h1]; rfl)
    clear h1 HE HA HB HC
    go_enter Tryz.func87, Tryz.ntmps87
    go_wp2
    go_ret
    exact ⟨by rw [HF.out]; rfl, hb0⟩
  have d1 : ((n1 : Int) != (L.k : Int)) = false := by simp; omega
  by_cases h2 : n2 = t2
  rotate_left
  · have d2 : ((n2 : Int) != (t2 : Int)) = true := by simp; omega
    have HF := Lib.hid (show R = false by rw [HE.out, decide_eq_false h2]; simp)
    clear h1 h2 HE HA HB HC
    go_enter Tryz.func87, Tryz.ntmps87
    go_wp2
    go_ret
    exact ⟨by rw [HF.out]; rfl, hb0⟩
  have d2 : ((n2 : Int) != (t2 : Int)) = false := by simp; omega
  by_cases h3 : n3 = t4
  rotate_left
  · have d3 : ((n3 : Int) != (t4 : Int)) = true := by simp; omega
    have HF := Lib.hid (show R = false by rw [HE.out, decide_eq_false h3]; simp)
    clear h1 h2 h3 HE HA HB HC
    go_enter Tryz.func87, Tryz.ntmps87
    go_wp2
    go_ret
    exact ⟨by rw [HF.out]; rfl, hb0⟩
  have d3 : ((n3 : Int) != (t4 : Int)) = false := by simp; omega
  have HF := Lib.hid (show R = (b1 && b2 && b3) by rw [HE.out, decide_eq_true h1, decide_eq_true h2, decide_eq_true h3]; rfl)
  clear h1 h2 h3 HE
  go_enter Tryz.func87, Tryz.ntmps87
  go_wp2_with fail
  generalize w.alloc _ = w1 at kl hb0 ⊢
  refine (HA.out _ hb0).mono ?_
  rintro e w2 ⟨rfl, hbx⟩
  replace kl := kl.below hbx kl.lt
  replace hb0 := below_chain hb0 hbx
  clear hbx
  cases b1
  · go_wp2
    go_ret
    exact ⟨by rw [HF.out]; rfl, hb0⟩
  have cl := kl.cell
  go_wp2_with fail
  refine (HB.out _ hb0).mono ?_
  rintro e w3 ⟨rfl, hbx⟩
  replace kl := kl.below hbx kl.lt
  replace hb0 := below_chain hb0 hbx
  clear hbx cl
  cases b2
  · go_wp2
    go_ret
    exact ⟨by rw [HF.out]; rfl, hb0⟩
  have cl := kl.cell
  go_wp2_with fail
  refine (HC.out _ hb0).mono ?_
  rintro e w4 ⟨rfl, hbx⟩
  go_wp2
  go_ret
  exact ⟨by rw [HF.out]; simp, below_chain hb0 hbx⟩
def cutS (A : Option Addr) (c t m : Nat) : Value := .slice (if c = t then A else Option.map (fun x => x.add t) A) (m - t) (c - t)
set_option maxRecDepth 100000 in
set_option maxHeartbeats 1000000 in
theorem splitU_any (L : LayR) (A : Option Addr) (n c x y z : Nat) (w : World) (hL : LayOk L) (hx : x = L.a) (hy : y = L.a + L.b) (hz : z = L.a + L.b + L.b) (hn : z ≤ n) (hnc : n ≤ c) (hm : c ≤ maxLen) :
    Calls Tryz.prog 59 #[.agg (layCs L), .slice A n c] w fun e w' => e = .returned (.tuple #[.slice A x c, cutS A c x y, cutS A c y z, cutS A c z n]) ∧ Below w.heap.size w w' := by
  have hla := hL.a
  have hlb := hL.b
  have gm : (c : Int) ≤ 9223372036854775807 := by
    simp [maxLen] at hm
    omega
  have e1 : (L.a : Int) + (L.b : Int) = (y : Int) := by omega
  have e2 : IntKind.i64.wrap (y : Int) = (y : Int) := wr_i64 _ (by omega) (by omega)
  have e3 : (y : Int) + (L.b : Int) = (z : Int) := by omega
  have e4 : IntKind.i64.wrap (z : Int) = (z : Int) := wr_i64 _ (by omega) (by omega)
  have i0 : (0 : Int) ≤ (x : Int) := by omega
  have i1 : (x : Int) ≤ (y : Int) := by omega
  have i2 : (y : Int) ≤ (z : Int) := by omega
  have i3 : (z : Int) ≤ (n : Int) := by omega
  have i4 : (n : Int) ≤ (c : Int) := by omega
  have i5 : (x : Int) ≤ (c : Int) := by omega
  have i6 : (y : Int) ≤ (c : Int) := by omega
  have i7 : (z : Int) ≤ (c : Int) := by omega
  have i8 : (0 : Int) ≤ (y : Int) := by omega
  have i9 : (0 : Int) ≤ (z : Int) := by omega
  have hb0 : Below w.heap.size w (w.alloc (.cells #[.int .u64 (L.p : Int), .int .i64 (L.block : Int), .int .i64 (L.queries : Int), .int .i64 (L.k : Int), .int .i64 (L.n : Int), .int .i64 (L.secret : Int), .int .i64 (L.rows : Int), .int .i64 (L.a : Int), .int .i64 (L.b : Int), .int .i64 (L.b : Int), .int .i64 (L.b : Int)] 55)) := (Below.refl _ _).alloc (Nat.le_refl _) _
  have kl := Blk.new w 55 #[.int .u64 (L.p : Int), .int .i64 (L.block : Int), .int .i64 (L.queries : Int), .int .i64 (L.k : Int), .int .i64 (L.n : Int), .int .i64 (L.secret : Int), .int .i64 (L.rows : Int), .int .i64 (L.a : Int), .int .i64 (L.b : Int), .int .i64 (L.b : Int), .int .i64 (L.b : Int)]
  clear hL hla hlb hn hy hz hnc hm
  subst hx
  unfold layCs cutS
  obtain ⟨B1, hB1⟩ : ∃ B1, B1 = (if c = L.a then A else Option.map (fun x => x.add L.a) A) := ⟨_, rfl⟩
  obtain ⟨B2, hB2⟩ : ∃ B2, B2 = (if c = y then A else Option.map (fun x => x.add y) A) := ⟨_, rfl⟩
  obtain ⟨B3, hB3⟩ : ∃ B3, B3 = (if c = z then A else Option.map (fun x => x.add z) A) := ⟨_, rfl⟩
  obtain ⟨n1, hn1⟩ : ∃ n1, n1 = y - L.a := ⟨_, rfl⟩
  obtain ⟨n2, hn2⟩ : ∃ n2, n2 = z - y := ⟨_, rfl⟩
  obtain ⟨n3, hn3⟩ : ∃ n3, n3 = n - z := ⟨_, rfl⟩
  obtain ⟨c1, hc1⟩ : ∃ c1, c1 = c - L.a := ⟨_, rfl⟩
  obtain ⟨c2, hc2⟩ : ∃ c2, c2 = c - y := ⟨_, rfl⟩
  obtain ⟨c3, hc3⟩ : ∃ c3, c3 = c - z := ⟨_, rfl⟩
  rw [← hB1, ← hB2, ← hB3, ← hn1, ← hn2, ← hn3, ← hc1, ← hc2, ← hc3]
  have HX := Lib.hid (And.intro hB1 (And.intro hB2 (And.intro hB3 (And.intro hn1 (And.intro hn2 (And.intro hn3 (And.intro hc1 (And.intro hc2 hc3))))))))
  clear hB1 hB2 hB3 hn1 hn2 hn3 hc1 hc2 hc3
  go_enter Tryz.func59, Tryz.ntmps59
  go_upto_region 1 with fail
  generalize w.alloc _ = w1 at kl hb0 ⊢
  have cl := kl.cell
  go_upto_region 4 with fail
  refine wpO_begin (Later) [] [0, 1, 2, 3, 4, 5, 6, 7, 8, 9, 10, 11, 12, 13, 14, 15, 16, 17] (by kernel_rfl) (by kernel_rfl) ?_
  refine wpO_startK (later_moves) ?_
  intro Wc HWc hacc
  have hbW : Below w1.heap.size w1 Wc := by rw [HWc.out]; exact (Below.refl _ _).drew
  repeat (first | (refine wpO_skip (later_moves) rfl rfl (fun _ _ _ h => h) ?_ ; simp only [Act.put, List.setIfInBounds_toArray, List.set_cons_zero, List.set_cons_succ]) | (refine wpO_light (v := ?_) (later_moves) rfl rfl (fun _ _ _ h => h) ?_ ?_ ; rotate_left ; (· (intro w' hR ; (first | have hcells := later_cellsD ((later_moves).trans _ _ _ hacc hR) | skip) ; go_simp ; try with_reducible rfl)) ; simp only [Act.put, List.setIfInBounds_toArray, List.set_cons_zero, List.set_cons_succ]))
  refine wpO_done ?_
  obtain ⟨hB1, hB2, hB3, hn1, hn2, hn3, hc1, hc2, hc3⟩ := HX.out
  rw [← hB1, ← hB2, ← hB3, ← hn1, ← hn2, ← hn3, ← hc1, ← hc2, ← hc3]
  clear hB1 hB2 hB3 hn1 hn2 hn3 hc1 hc2 hc3
  go_wp2
  exact bodyPost_ret (v := .tuple #[.slice A L.a c, .slice B1 n1 c1, .slice B2 n2 c2, .slice B3 n3 c3]) (by simp [results, Tryz.results59, go_sem]) rfl ⟨rfl, below_chain hb0 hbW⟩
set_option maxRecDepth 100000 in
set_option maxHeartbeats 1000000 in
theorem splitL_any (L : LayR) (A : Option Addr) (n c x y z : Nat) (w : World) (hL : LayOk L) (hx : x = L.a) (hy : y = L.a + L.b) (hz : z = L.a + L.b + L.b) (hn : z ≤ n) (hnc : n ≤ c) (hm : c ≤ maxLen) :
    Calls Tryz.prog 84 #[.agg (layCs L), .slice A n c] w fun e w' => e = .returned (.tuple #[.slice A x c, cutS A c x y, cutS A c y z, cutS A c z n]) ∧ Below w.heap.size w w' := by
  have hla := hL.a
  have hlb := hL.b
  have gm : (c : Int) ≤ 9223372036854775807 := by
    simp [maxLen] at hm
    omega
  have e1 : (L.a : Int) + (L.b : Int) = (y : Int) := by omega
  have e2 : IntKind.i64.wrap (y : Int) = (y : Int) := wr_i64 _ (by omega) (by omega)
  have e3 : (y : Int) + (L.b : Int) = (z : Int) := by omega
  have e4 : IntKind.i64.wrap (z : Int) = (z : Int) := wr_i64 _ (by omega) (by omega)
  have i0 : (0 : Int) ≤ (x : Int) := by omega
  have i1 : (x : Int) ≤ (y : Int) := by omega
  have i2 : (y : Int) ≤ (z : Int) := by omega
  have i3 : (z : Int) ≤ (n : Int) := by omega
  have i4 : (n : Int) ≤ (c : Int) := by omega
  have i5 : (x : Int) ≤ (c : Int) := by omega
  have i6 : (y : Int) ≤ (c : Int) := by omega
  have i7 : (z : Int) ≤ (c : Int) := by omega
  have i8 : (0 : Int) ≤ (y : Int) := by omega
  have i9 : (0 : Int) ≤ (z : Int) := by omega
  have hb0 : Below w.heap.size w (w.alloc (.cells #[.int .u64 (L.p : Int), .int .i64 (L.block : Int), .int .i64 (L.queries : Int), .int .i64 (L.k : Int), .int .i64 (L.n : Int), .int .i64 (L.secret : Int), .int .i64 (L.rows : Int), .int .i64 (L.a : Int), .int .i64 (L.b : Int), .int .i64 (L.b : Int), .int .i64 (L.b : Int)] 55)) := (Below.refl _ _).alloc (Nat.le_refl _) _
  have kl := Blk.new w 55 #[.int .u64 (L.p : Int), .int .i64 (L.block : Int), .int .i64 (L.queries : Int), .int .i64 (L.k : Int), .int .i64 (L.n : Int), .int .i64 (L.secret : Int), .int .i64 (L.rows : Int), .int .i64 (L.a : Int), .int .i64 (L.b : Int), .int .i64 (L.b : Int), .int .i64 (L.b : Int)]
  clear hL hla hlb hn hy hz hnc hm
  subst hx
  unfold layCs cutS
  obtain ⟨B1, hB1⟩ : ∃ B1, B1 = (if c = L.a then A else Option.map (fun x => x.add L.a) A) := ⟨_, rfl⟩
  obtain ⟨B2, hB2⟩ : ∃ B2, B2 = (if c = y then A else Option.map (fun x => x.add y) A) := ⟨_, rfl⟩
  obtain ⟨B3, hB3⟩ : ∃ B3, B3 = (if c = z then A else Option.map (fun x => x.add z) A) := ⟨_, rfl⟩
  obtain ⟨n1, hn1⟩ : ∃ n1, n1 = y - L.a := ⟨_, rfl⟩
  obtain ⟨n2, hn2⟩ : ∃ n2, n2 = z - y := ⟨_, rfl⟩
  obtain ⟨n3, hn3⟩ : ∃ n3, n3 = n - z := ⟨_, rfl⟩
  obtain ⟨c1, hc1⟩ : ∃ c1, c1 = c - L.a := ⟨_, rfl⟩
  obtain ⟨c2, hc2⟩ : ∃ c2, c2 = c - y := ⟨_, rfl⟩
  obtain ⟨c3, hc3⟩ : ∃ c3, c3 = c - z := ⟨_, rfl⟩
  rw [← hB1, ← hB2, ← hB3, ← hn1, ← hn2, ← hn3, ← hc1, ← hc2, ← hc3]
  have HX := Lib.hid (And.intro hB1 (And.intro hB2 (And.intro hB3 (And.intro hn1 (And.intro hn2 (And.intro hn3 (And.intro hc1 (And.intro hc2 hc3))))))))
  clear hB1 hB2 hB3 hn1 hn2 hn3 hc1 hc2 hc3
  go_enter Tryz.func84, Tryz.ntmps84
  go_upto_region 1 with fail
  generalize w.alloc _ = w1 at kl hb0 ⊢
  have cl := kl.cell
  go_upto_region 4 with fail
  refine wpO_begin (Later) [] [0, 1, 2, 3, 4, 5, 6, 7, 8, 9, 10, 11, 12, 13, 14, 15, 16, 17] (by kernel_rfl) (by kernel_rfl) ?_
  refine wpO_startK (later_moves) ?_
  intro Wc HWc hacc
  have hbW : Below w1.heap.size w1 Wc := by rw [HWc.out]; exact (Below.refl _ _).drew
  repeat (first | (refine wpO_skip (later_moves) rfl rfl (fun _ _ _ h => h) ?_ ; simp only [Act.put, List.setIfInBounds_toArray, List.set_cons_zero, List.set_cons_succ]) | (refine wpO_light (v := ?_) (later_moves) rfl rfl (fun _ _ _ h => h) ?_ ?_ ; rotate_left ; (· (intro w' hR ; (first | have hcells := later_cellsD ((later_moves).trans _ _ _ hacc hR) | skip) ; go_simp ; try with_reducible rfl)) ; simp only [Act.put, List.setIfInBounds_toArray, List.set_cons_zero, List.set_cons_succ]))
  refine wpO_done ?_
  obtain ⟨hB1, hB2, hB3, hn1, hn2, hn3, hc1, hc2, hc3⟩ := HX.out
  rw [← hB1, ← hB2, ← hB3, ← hn1, ← hn2, ← hn3, ← hc1, ← hc2, ← hc3]
  clear hB1 hB2 hB3 hn1 hn2 hn3 hc1 hc2 hc3
  go_wp2
  exact bodyPost_ret (v := .tuple #[.slice A L.a c, .slice B1 n1 c1, .slice B2 n2 c2, .slice B3 n3 c3]) (by simp [results, Tryz.results84, go_sem]) rfl ⟨rfl, below_chain hb0 hbW⟩
def coinsOk (L : LayR) (rows : List (List Nat)) (l1 l2 l3 l4 : List Nat) : Bool :=
  decide (rows.length = L.a + L.b + L.b + L.b) && (rows.all (fun r => elOk r L.queries L.p) && (elOk l1 L.k L.p && (elOk l2 (L.k + L.block - 2) L.p && (elOk l3 (L.block + 2 * L.queries - 1) L.p && elOk l4 L.n bigQ))))
theorem allr_take {l : List (List Nat)} {f : List Nat → Bool} {i : Nat} (h : (l.take i).all f = true) (hi : i < l.length) (hx : f l[i] = true) : (l.take (i + 1)).all f = true := by
  rw [List.take_succ_eq_append_getElem hi, List.all_append, h, List.all_cons, hx]
  rfl
theorem allr_not {l : List (List Nat)} {f : List Nat → Bool} {i : Nat} (hi : i < l.length) (hx : f l[i] = false) : l.all f = false := by
  rw [List.all_eq_false]
  exact ⟨l[i], List.getElem_mem _, by rw [hx]; decide⟩
set_option maxRecDepth 100000 in
set_option maxHeartbeats 2000000 in
theorem mValid_any (L : LayR) (A0 A1 A2 A3 A4 : Option Addr) (n0 c0 n1 c1 n2 c2 n3 c3 n4 c4 : Nat) (rows : List (List Nat)) (l1 l2 l3 l4 : List Nat) (w : World) (hL : LayOk L)
    (h0 : RRows w [.slice A0 n0 c0] rows) (h1 : RWd w [.slice A1 n1 c1] l1) (h2 : RWd w [.slice A2 n2 c2] l2) (h3 : RWd w [.slice A3 n3 c3] l3) (h4 : RWd w [.slice A4 n4 c4] l4) :
    Calls Tryz.prog 35 #[.agg (layCs L), .agg #[.slice A0 n0 c0, .slice A1 n1 c1, .slice A2 n2 c2, .slice A3 n3 c3, .slice A4 n4 c4]] w fun e w' => e = .returned (.bool (coinsOk L rows l1 l2 l3 l4)) ∧ Below w.heap.size w w' := by
  have HC := Lib.hid (fun w => codeSize_any L w hL)
  have HT := Lib.hid (fun w => pTotal_any L.p L.block L.queries L.k L.n L.secret L.rows L.a L.b L.b L.b w hL.a hL.b hL.b hL.b)
  have HE1 := Lib.hid (fun w' (hb : Below w.heap.size w w') => elem_any A1 n1 c1 L.k L.p l1 w' (kept_RWd _ _ _ _ hb h1))
  have HE2 := Lib.hid (fun w' (hb : Below w.heap.size w w') => elem_any A2 n2 c2 (L.k + L.block - 2) L.p l2 w' (kept_RWd _ _ _ _ hb h2))
  have HE3 := Lib.hid (fun w' (hb : Below w.heap.size w w') => elem_any A3 n3 c3 (L.block + 2 * L.queries - 1) L.p l3 w' (kept_RWd _ _ _ _ hb h3))
  have HE4 := Lib.hid (fun w' (hb : Below w.heap.size w w') => elem_any A4 n4 c4 L.n bigQ l4 w' (kept_RWd _ _ _ _ hb h4))
  obtain ⟨hn0, a1, a2, r0⟩ := rows_at h0
  have gm := lw_max a1 a2
  obtain ⟨ans, ha⟩ : ∃ ans, ans = coinsOk L rows l1 l2 l3 l4 := ⟨_, rfl⟩
  rw [← ha]
  unfold coinsOk at ha
  rw [hn0] at ha
  have HN := Lib.hid hn0
  obtain ⟨kl, kc, hba, hsz⟩ := boxes2 w 55 42 (layCs L) #[.slice A0 n0 c0, .slice A1 n1 c1, .slice A2 n2 c2, .slice A3 n3 c3, .slice A4 n4 c4]
  generalize elOk l1 L.k L.p = b1 at *
  generalize elOk l2 (L.k + L.block - 2) L.p = b2 at *
  generalize elOk l3 (L.block + 2 * L.queries - 1) L.p = b3 at *
  generalize elOk l4 L.n bigQ = b4 at *
  generalize L.k + L.block - 2 = m2 at *
  generalize L.block + 2 * L.queries - 1 = m3 at *
  generalize L.a + L.b + L.b + L.b = T at *
  have HA := Lib.hid ha
  clear ha h0 h1 h2 h3 h4 hL a1 a2 hn0
  unfold layCs at *
  unfold bigQ at HE4
  go_enter Tryz.func35, Tryz.ntmps35
  go_wp2_with fail
  generalize (w.alloc _).alloc _ = w1 at kl kc hba hsz ⊢
  refine (HC.out _).mono ?_
  rintro e w2 ⟨rfl, hb2⟩
  have ks := Blk.new w2 123 #[.int .i64 (L.k : Int), .int .i64 (m2 : Int), .int .i64 (m3 : Int)]
  have hbs := (Below.refl w2.heap.size w2).alloc (Nat.le_refl _) (.cells #[.int .i64 (L.k : Int), .int .i64 (m2 : Int), .int .i64 (m3 : Int)] 123)
  replace kl := kl.below hb2 kl.lt
  replace kc := kc.below hb2 kc.lt
  replace kl := kl.below hbs kl.lt
  replace kc := kc.below hbs kc.lt
  have hb0 := below_chain (below_chain hba hb2) hbs
  go_upto_region 2 with fail
  generalize w2.alloc _ = w3 at kl kc ks hb0 ⊢
  generalize w2.heap.size = gs at ks ⊢
  clear hba hb2 hbs hsz HC
  have cl := kl.cell
  have cc := kc.cell
  have cs := ks.cell
  have ll := kl.lt
  have lc := kc.lt
  have ls := ks.lt
  by_cases hT : n0 = T
  rotate_left
  · have HF := Lib.hid (show ans = false by rw [HA.out, decide_eq_false hT]; rfl)
    have t1 : ((n0 : Int) != (T : Int)) = true := by rw [bne_iff_ne]; omega
    have t2 : ((n0 : Int) == (T : Int)) = false := by rw [beq_eq_false_iff_ne]; omega
    clear HA hT
    refine wpGO_begin (Later) (later_moves) [] [] [0, 1, 2, 3, 4, 5, 6, 7, 8, 9, 10, 11, 12, 13, 14, 15, 16, 17, 18, 19, 20, 21, 22, 23, 24, 25] (by kernel_rfl) (by kernel_rfl) ?_
    refine wpGO_start (later_moves) ?_
    intro Wc hacc
    repeat (first | (refine wpGO_skip (later_moves) rfl rfl rfl rfl (fun _ _ _ h => h) ?_ ; simp only [Act.put, List.setIfInBounds_toArray, List.set_cons_zero, List.set_cons_succ]) | (refine wpGO_light (v := ?_) (later_moves) rfl rfl rfl rfl (fun _ _ _ h => h) ?_ ?_ ; rotate_left ; (· (intro w' hR ; (first | have hcells := later_cellsD ((later_moves).trans _ _ _ hacc hR) | skip) ; go_simp ; try with_reducible rfl)) ; simp only [Act.put, List.setIfInBounds_toArray, List.set_cons_zero, List.set_cons_succ]))
    refine wpGO_call (later_moves) rfl rfl rfl rfl (fun _ _ _ h => h) (fun _ => by go_simp <;> rfl) (fun w' hR => HT.out _) ?_
    simp only [Act.put, List.setIfInBounds_toArray, List.set_cons_zero, List.set_cons_succ]
    repeat (first | (refine wpGO_skip (later_moves) rfl rfl rfl rfl (fun _ _ _ h => h) ?_ ; simp only [Act.put, List.setIfInBounds_toArray, List.set_cons_zero, List.set_cons_succ]) | (refine wpGO_light (v := ?_) (later_moves) rfl rfl rfl rfl (fun _ _ _ h => h) ?_ ?_ ; rotate_left ; (· (intro w' hR ; (first | have hcells := later_cellsD ((later_moves).trans _ _ _ hacc hR) | skip) ; go_simp ; try with_reducible rfl)) ; simp only [Act.put, List.setIfInBounds_toArray, List.set_cons_zero, List.set_cons_succ]))
    refine wpGO_done rfl ?_
    intro wd hRd
    replace hacc := (later_moves).trans _ _ _ hacc hRd
    clear hRd
    go_wp2_with fail
    go_ret
    exact ⟨by rw [HF.out]; rfl, below_chain hb0.drew hacc⟩
  have t1 : ((n0 : Int) != (T : Int)) = false := by rw [bne_eq_false_iff_eq]; omega
  have t2 : ((n0 : Int) == (T : Int)) = true := by rw [beq_iff_eq]; omega
  have HB := Lib.hid (show ans = (rows.all (fun r => elOk r L.queries L.p) && (b1 && (b2 && (b3 && b4)))) by rw [HA.out, decide_eq_true hT]; rfl)
  clear HA hT
  cases b1
  · have HF := Lib.hid (show ans = false by rw [HB.out]; simp)
    refine wpGO_begin (Later) (later_moves) [] [] [0, 1, 2, 3, 4, 5, 6, 7, 8, 9, 10, 11, 12, 13, 14, 15, 16, 17, 18, 19, 20, 21, 22, 23, 24, 25] (by kernel_rfl) (by kernel_rfl) ?_
    refine wpGO_start (later_moves) ?_
    intro Wc hacc
    repeat (first | (refine wpGO_skip (later_moves) rfl rfl rfl rfl (fun _ _ _ h => h) ?_ ; simp only [Act.put, List.setIfInBounds_toArray, List.set_cons_zero, List.set_cons_succ]) | (refine wpGO_light (v := ?_) (later_moves) rfl rfl rfl rfl (fun _ _ _ h => h) ?_ ?_ ; rotate_left ; (· (intro w' hR ; (first | have hcells := later_cellsD ((later_moves).trans _ _ _ hacc hR) | skip) ; go_simp ; try with_reducible rfl)) ; simp only [Act.put, List.setIfInBounds_toArray, List.set_cons_zero, List.set_cons_succ]))
    refine wpGO_call (later_moves) rfl rfl rfl rfl (fun _ _ _ h => h) (fun _ => by go_simp <;> rfl) (fun w' hR => HT.out _) ?_
    simp only [Act.put, List.setIfInBounds_toArray, List.set_cons_zero, List.set_cons_succ]
    repeat (first | (refine wpGO_skip (later_moves) rfl rfl rfl rfl (fun _ _ _ h => h) ?_ ; simp only [Act.put, List.setIfInBounds_toArray, List.set_cons_zero, List.set_cons_succ]) | (refine wpGO_light (v := ?_) (later_moves) rfl rfl rfl rfl (fun _ _ _ h => h) ?_ ?_ ; rotate_left ; (· (intro w' hR ; (first | have hcells := later_cellsD ((later_moves).trans _ _ _ hacc hR) | skip) ; go_simp ; try with_reducible rfl)) ; simp only [Act.put, List.setIfInBounds_toArray, List.set_cons_zero, List.set_cons_succ]))
    refine wpGO_call (later_moves) rfl rfl rfl rfl (fun _ _ _ h => h) (fun _ => by go_simp <;> rfl) (fun w' hR => HE1.out _ (below_chain hb0.drew (below_chain hacc hR))) ?_
    simp only [Act.put, List.setIfInBounds_toArray, List.set_cons_zero, List.set_cons_succ]
    repeat (first | (refine wpGO_skip (later_moves) rfl rfl rfl rfl (fun _ _ _ h => h) ?_ ; simp only [Act.put, List.setIfInBounds_toArray, List.set_cons_zero, List.set_cons_succ]) | (refine wpGO_light (v := ?_) (later_moves) rfl rfl rfl rfl (fun _ _ _ h => h) ?_ ?_ ; rotate_left ; (· (intro w' hR ; (first | have hcells := later_cellsD ((later_moves).trans _ _ _ hacc hR) | skip) ; go_simp ; try with_reducible rfl)) ; simp only [Act.put, List.setIfInBounds_toArray, List.set_cons_zero, List.set_cons_succ]))
    refine wpGO_done rfl ?_
    intro wd hRd
    replace hacc := (later_moves).trans _ _ _ hacc hRd
    clear hRd
    go_wp2_with fail
    go_ret
    exact ⟨by rw [HF.out]; rfl, below_chain hb0.drew hacc⟩
  cases b2
  · have HF := Lib.hid (show ans = false by rw [HB.out]; simp)
    refine wpGO_begin (Later) (later_moves) [] [] [0, 1, 2, 3, 4, 5, 6, 7, 8, 9, 10, 11, 12, 13, 14, 15, 16, 17, 18, 19, 20, 21, 22, 23, 24, 25] (by kernel_rfl) (by kernel_rfl) ?_
    refine wpGO_start (later_moves) ?_
    intro Wc hacc
    repeat (first | (refine wpGO_skip (later_moves) rfl rfl rfl rfl (fun _ _ _ h => h) ?_ ; simp only [Act.put, List.setIfInBounds_toArray, List.set_cons_zero, List.set_cons_succ]) | (refine wpGO_light (v := ?_) (later_moves) rfl rfl rfl rfl (fun _ _ _ h => h) ?_ ?_ ; rotate_left ; (· (intro w' hR ; (first | have hcells := later_cellsD ((later_moves).trans _ _ _ hacc hR) | skip) ; go_simp ; try with_reducible rfl)) ; simp only [Act.put, List.setIfInBounds_toArray, List.set_cons_zero, List.set_cons_succ]))
    refine wpGO_call (later_moves) rfl rfl rfl rfl (fun _ _ _ h => h) (fun _ => by go_simp <;> rfl) (fun w' hR => HT.out _) ?_
    simp only [Act.put, List.setIfInBounds_toArray, List.set_cons_zero, List.set_cons_succ]
    repeat (first | (refine wpGO_skip (later_moves) rfl rfl rfl rfl (fun _ _ _ h => h) ?_ ; simp only [Act.put, List.setIfInBounds_toArray, List.set_cons_zero, List.set_cons_succ]) | (refine wpGO_light (v := ?_) (later_moves) rfl rfl rfl rfl (fun _ _ _ h => h) ?_ ?_ ; rotate_left ; (· (intro w' hR ; (first | have hcells := later_cellsD ((later_moves).trans _ _ _ hacc hR) | skip) ; go_simp ; try with_reducible rfl)) ; simp only [Act.put, List.setIfInBounds_toArray, List.set_cons_zero, List.set_cons_succ]))
    refine wpGO_call (later_moves) rfl rfl rfl rfl (fun _ _ _ h => h) (fun _ => by go_simp <;> rfl) (fun w' hR => HE1.out _ (below_chain hb0.drew (below_chain hacc hR))) ?_
    simp only [Act.put, List.setIfInBounds_toArray, List.set_cons_zero, List.set_cons_succ]
    repeat (first | (refine wpGO_skip (later_moves) rfl rfl rfl rfl (fun _ _ _ h => h) ?_ ; simp only [Act.put, List.setIfInBounds_toArray, List.set_cons_zero, List.set_cons_succ]) | (refine wpGO_light (v := ?_) (later_moves) rfl rfl rfl rfl (fun _ _ _ h => h) ?_ ?_ ; rotate_left ; (· (intro w' hR ; (first | have hcells := later_cellsD ((later_moves).trans _ _ _ hacc hR) | skip) ; go_simp ; try with_reducible rfl)) ; simp only [Act.put, List.setIfInBounds_toArray, List.set_cons_zero, List.set_cons_succ]))
    refine wpGO_call (later_moves) rfl rfl rfl rfl (fun _ _ _ h => h) (fun _ => by go_simp <;> rfl) (fun w' hR => HE2.out _ (below_chain hb0.drew (below_chain hacc hR))) ?_
    simp only [Act.put, List.setIfInBounds_toArray, List.set_cons_zero, List.set_cons_succ]
    repeat (first | (refine wpGO_skip (later_moves) rfl rfl rfl rfl (fun _ _ _ h => h) ?_ ; simp only [Act.put, List.setIfInBounds_toArray, List.set_cons_zero, List.set_cons_succ]) | (refine wpGO_light (v := ?_) (later_moves) rfl rfl rfl rfl (fun _ _ _ h => h) ?_ ?_ ; rotate_left ; (· (intro w' hR ; (first | have hcells := later_cellsD ((later_moves).trans _ _ _ hacc hR) | skip) ; go_simp ; try with_reducible rfl)) ; simp only [Act.put, List.setIfInBounds_toArray, List.set_cons_zero, List.set_cons_succ]))
    refine wpGO_done rfl ?_
    intro wd hRd
    replace hacc := (later_moves).trans _ _ _ hacc hRd
    clear hRd
    go_wp2_with fail
    go_ret
    exact ⟨by rw [HF.out]; rfl, below_chain hb0.drew hacc⟩
  refine wpGO_begin (Later) (later_moves) [] [] [0, 1, 2, 3, 4, 5, 6, 7, 8, 9, 10, 11, 12, 13, 14, 15, 16, 17, 18, 19, 20, 21, 22, 23, 24, 25] (by kernel_rfl) (by kernel_rfl) ?_
  refine wpGO_start (later_moves) ?_
  intro Wc hacc
  repeat (first | (refine wpGO_skip (later_moves) rfl rfl rfl rfl (fun _ _ _ h => h) ?_ ; simp only [Act.put, List.setIfInBounds_toArray, List.set_cons_zero, List.set_cons_succ]) | (refine wpGO_light (v := ?_) (later_moves) rfl rfl rfl rfl (fun _ _ _ h => h) ?_ ?_ ; rotate_left ; (· (intro w' hR ; (first | have hcells := later_cellsD ((later_moves).trans _ _ _ hacc hR) | skip) ; go_simp ; try with_reducible rfl)) ; simp only [Act.put, List.setIfInBounds_toArray, List.set_cons_zero, List.set_cons_succ]))
  refine wpGO_call (later_moves) rfl rfl rfl rfl (fun _ _ _ h => h) (fun _ => by go_simp <;> rfl) (fun w' hR => HT.out _) ?_
  simp only [Act.put, List.setIfInBounds_toArray, List.set_cons_zero, List.set_cons_succ]
  repeat (first | (refine wpGO_skip (later_moves) rfl rfl rfl rfl (fun _ _ _ h => h) ?_ ; simp only [Act.put, List.setIfInBounds_toArray, List.set_cons_zero, List.set_cons_succ]) | (refine wpGO_light (v := ?_) (later_moves) rfl rfl rfl rfl (fun _ _ _ h => h) ?_ ?_ ; rotate_left ; (· (intro w' hR ; (first | have hcells := later_cellsD ((later_moves).trans _ _ _ hacc hR) | skip) ; go_simp ; try with_reducible rfl)) ; simp only [Act.put, List.setIfInBounds_toArray, List.set_cons_zero, List.set_cons_succ]))
  refine wpGO_call (later_moves) rfl rfl rfl rfl (fun _ _ _ h => h) (fun _ => by go_simp <;> rfl) (fun w' hR => HE1.out _ (below_chain hb0.drew (below_chain hacc hR))) ?_
  simp only [Act.put, List.setIfInBounds_toArray, List.set_cons_zero, List.set_cons_succ]
  repeat (first | (refine wpGO_skip (later_moves) rfl rfl rfl rfl (fun _ _ _ h => h) ?_ ; simp only [Act.put, List.setIfInBounds_toArray, List.set_cons_zero, List.set_cons_succ]) | (refine wpGO_light (v := ?_) (later_moves) rfl rfl rfl rfl (fun _ _ _ h => h) ?_ ?_ ; rotate_left ; (· (intro w' hR ; (first | have hcells := later_cellsD ((later_moves).trans _ _ _ hacc hR) | skip) ; go_simp ; try with_reducible rfl)) ; simp only [Act.put, List.setIfInBounds_toArray, List.set_cons_zero, List.set_cons_succ]))
  refine wpGO_call (later_moves) rfl rfl rfl rfl (fun _ _ _ h => h) (fun _ => by go_simp <;> rfl) (fun w' hR => HE2.out _ (below_chain hb0.drew (below_chain hacc hR))) ?_
  simp only [Act.put, List.setIfInBounds_toArray, List.set_cons_zero, List.set_cons_succ]
  repeat (first | (refine wpGO_skip (later_moves) rfl rfl rfl rfl (fun _ _ _ h => h) ?_ ; simp only [Act.put, List.setIfInBounds_toArray, List.set_cons_zero, List.set_cons_succ]) | (refine wpGO_light (v := ?_) (later_moves) rfl rfl rfl rfl (fun _ _ _ h => h) ?_ ?_ ; rotate_left ; (· (intro w' hR ; (first | have hcells := later_cellsD ((later_moves).trans _ _ _ hacc hR) | skip) ; go_simp ; try with_reducible rfl)) ; simp only [Act.put, List.setIfInBounds_toArray, List.set_cons_zero, List.set_cons_succ]))
  refine wpGO_done rfl ?_
  intro wd hRd
  replace hacc := (later_moves).trans _ _ _ hacc hRd
  clear hRd
  replace kl := kl.drew.below hacc kl.lt
  replace kc := kc.drew.below hacc kc.lt
  replace ks := ks.drew.below hacc ks.lt
  replace hb0 := below_chain hb0.drew hacc
  clear cl cc cs ll lc ls hacc HE1 HE2 HT
  have cl := kl.cell
  have cc := kc.cell
  have cs := ks.cell
  have HE3a := Lib.hid (HE3.out _ hb0)
  cases b3
  · have HF := Lib.hid (show ans = false by rw [HB.out]; simp)
    go_wp2_with fail
    refine HE3a.out.mono ?_
    rintro e w5 ⟨rfl, hb5⟩
    go_wp2
    go_ret
    exact ⟨by rw [HF.out]; rfl, below_chain hb0 hb5⟩
  go_wp2_with fail
  refine HE3a.out.mono ?_
  rintro e w5 ⟨rfl, hb5⟩
  replace kl := kl.below hb5 kl.lt
  replace kc := kc.below hb5 kc.lt
  replace hb0 := below_chain hb0 hb5
  clear cl cc cs ks hb5 HE3a HE3
  have cl := kl.cell
  have cc := kc.cell
  have HE4a := Lib.hid (HE4.out _ hb0)
  cases b4
  · have HF := Lib.hid (show ans = false by rw [HB.out]; simp)
    go_wp2_with fail
    refine HE4a.out.mono ?_
    rintro e w6 ⟨rfl, hb6⟩
    go_wp2
    go_ret
    exact ⟨by rw [HF.out]; rfl, below_chain hb0 hb6⟩
  go_wp2_with fail
  refine HE4a.out.mono ?_
  rintro e w6 ⟨rfl, hb6⟩
  replace kl := kl.below hb6 kl.lt
  replace kc := kc.below hb6 kc.lt
  replace hb0 := below_chain hb0 hb6
  clear cl cc hb6 HE4a HE4
  have HB2 := Lib.hid (show ans = rows.all (fun r => elOk r L.queries L.p) by rw [HB.out]; simp)
  clear HB
  have cc := kc.cell
  go_wp2_with fail
  clear cc
  go_loopw [55] (fun y wr => ∃ i : Nat, i ≤ n0 ∧ y = .int .i64 (i : Int) ∧ Hid ((rows.take i).all (fun r => elOk r L.queries L.p) = true) ∧ Blk wr w.heap.size 55 #[.int .u64 (L.p : Int), .int .i64 (L.block : Int), .int .i64 (L.queries : Int), .int .i64 (L.k : Int), .int .i64 (L.n : Int), .int .i64 (L.secret : Int), .int .i64 (L.rows : Int), .int .i64 (L.a : Int), .int .i64 (L.b : Int), .int .i64 (L.b : Int), .int .i64 (L.b : Int)] ∧ Below w.heap.size w wr) (fun y _ => n0 - (intOf y).toNat)
  case atStart => exact ⟨0, Nat.zero_le _, rfl, rfl, kl, hb0⟩
  case round =>
    clear kl kc hb0
    obtain ⟨i, hi, rfl, HTk, kl, hb0⟩ := hrel
    by_cases hlt : i < n0
    · have g1 : (0 : Int) ≤ (i : Int) := by omega
      have g2 : (i : Int) < (n0 : Int) := by omega
      have i1 : i < rows.length := by rw [HN.out]; exact hlt
      obtain ⟨x1, y1, B1, m1, k1, rfl, v1, d1, s1⟩ := rows_get (r0.below kept_RWd hb0) i1
      have HS := Lib.hid (elem_any B1 m1 k1 L.queries L.p rows[i] wr s1)
      have cl := kl.cell
      clear s1
      cases hx : elOk rows[i] L.queries L.p
      · have HF := Lib.hid (HB2.out.trans (allr_not i1 hx))
        rw [hx] at HS
        clear hx HTk i1
        go_wp2_with fail
        refine HS.out.mono ?_
        rintro e w7 ⟨rfl, hb7⟩
        go_wp2
        go_ret
        exact ⟨by rw [HF.out]; rfl, below_chain hb0 hb7⟩
      · have HT2 := Lib.hid (allr_take HTk.out i1 hx)
        rw [hx] at HS
        clear hx HTk i1
        go_wp2_with fail
        refine HS.out.mono ?_
        rintro e w7 ⟨rfl, hb7⟩
        replace kl := kl.below hb7 kl.lt
        replace hb0 := below_chain hb0 hb7
        clear cl hb7 d1 v1
        go_wp2
        go_roundw
        case rel => exact ⟨i + 1, by omega, by go_num, HT2.out, kl, hb0⟩
        case measure => simp [intOf]; omega
    · obtain rfl : i = n0 := by omega
      have HF := Lib.hid (show ans = true by rw [HB2.out]; have := HTk.out; rwa [← HN.out, List.take_length] at this)
      go_wp2
      go_ret
      exact ⟨by rw [HF.out]; rfl, hb0⟩
end Go.Proofs.YtakjnmojigechaaGreat
