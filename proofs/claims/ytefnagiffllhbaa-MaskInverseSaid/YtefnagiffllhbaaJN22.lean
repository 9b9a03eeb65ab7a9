/-
  poly.different: a set that the call makes and looks into.
-/
import Derived.Test.YtefnagiffllhbaaJN21
import Derived.Test.YtefnagiffllhbaaJN16
import Derived.Laws.OwnMore
import Derived.Deep.AppendLies
import Derived.Maps.OwnSet
import Derived.Maps.Views
import Derived.Carry

/- PlA -/
namespace Go.Proofs.Ytefnagiffllhbaa
open Go.RowKit

set_option maxRecDepth 100000 in
set_option maxHeartbeats 1000000 in
theorem pEval_any (p : Nat) (A : Option Addr) (n c x : Nat) (l : List Nat) (w : World) (hp : okP p = true) (hl : RWd w [.slice A n c] l) :
    Calls Try.prog 46 #[fv p, .slice A n c, .int .u64 (x : Int)] w fun e w' => e = .returned (.int .u64 ((hornP p x l : Nat) : Int)) ∧ Below w.heap.size w w' := by
  obtain ⟨rfl, h1, h2, hlt, hrd⟩ := lw_at hl
  have gm := lw_max h1 h2
  have HM := Lib.hid (fun a b w => fMul_any p a b w hp)
  have HA := Lib.hid (fun a b w => fAdd_any p a b w hp)
  have HD := Lib.hid (hornP_drop p x l)
  obtain ⟨f, hf⟩ : ∃ f, f = fun k => hornP p x (l.drop k) := ⟨_, rfl⟩
  have HF0 := Lib.hid (show f 0 = hornP p x l by rw [hf]; rfl)
  have HF9 := Lib.hid (show f l.length = 0 by rw [hf]; simp [hornP])
  have HF := Lib.hid (fun k (hk : k < l.length) => show f k = (f (k + 1) * x % p + l.getD k 0) % p by rw [hf]; exact HD.out k hk)
  rw [← HF0.out]
  clear HD hl h1 h2 hp hlt hf HF0
  obtain ⟨m, hm⟩ : ∃ m : Int, m = (l.length : Int) - 1 := ⟨_, rfl⟩
  have g0 : (l.length : Int) - 1 = m := hm.symm
  have gw : IntKind.i64.wrap m = m := wr_i64 _ (by omega) (by omega)
  have HMM := Lib.hid hm
  clear hm
  unfold fv at *
  have kf := Blk.new w 88 #[.int .u64 (p : Int)]
  have hb0 : Below w.heap.size w (w.alloc (.cells #[.int .u64 (p : Int)] 88)) := (Below.refl _ _).alloc (Nat.le_refl _) _
  go_enter Try.func46, Try.ntmps46
  go_upto_region 1 with fail
  generalize w.alloc _ = w0 at kf hb0 ⊢
  go_wp2_with fail
  clear g0 gw
  go_loopw [7, 8] (fun y i wr => ∃ (k : Nat) (j : Int), Hid (j + 1 = (k : Int)) ∧ k ≤ l.length ∧ i = .int .i64 j ∧ y = .int .u64 (f k : Int) ∧ Blk wr w.heap.size 88 #[.int .u64 (p : Int)] ∧ Below w.heap.size w wr) (fun _ i _ => (intOf i + 1).toNat)
  case atStart => exact ⟨l.length, m, Lib.hid (by have := HMM.out; omega), Nat.le_refl _, rfl, by rw [HF9.out]; rfl, kf, hb0⟩
  case round =>
    clear kf hb0
    obtain ⟨k, j, HJ, hk, rfl, rfl, kf, hb⟩ := hrel
    rcases Nat.eq_zero_or_pos k with h0 | h0
    · subst h0
      have hj : j = -1 := by have := HJ.out; omega
      subst hj
      go_wp2
      go_ret
      exact ⟨rfl, hb⟩
    · obtain ⟨i, hi⟩ : ∃ i, i = k - 1 := ⟨_, rfl⟩
      have hj : j = (i : Int) := by have := HJ.out; omega
      subst hj
      have hil : i < l.length := by omega
      obtain ⟨b, q, rfl, hbl, hc⟩ := lw_get (hrd.below hb) hil
      have HF1 := Lib.hid (HF.out i hil)
      rw [show i + 1 = k by omega] at HF1
      obtain ⟨y, hy⟩ : ∃ y, y = f k := ⟨_, rfl⟩
      rw [← hy] at HF1 ⊢
      generalize l.getD i 0 = a at *
      obtain ⟨z, hz⟩ : ∃ z, z = y * x % p := ⟨_, rfl⟩
      have HM1 := Lib.hid (fun w => by have := HM.out y x w; rw [← hz] at this; exact this)
      rw [← hz] at HF1
      have HA1 := Lib.hid (fun w => by have := HA.out z a w; rw [← HF1.out] at this; exact this)
      have HI := Lib.hid hi
      obtain ⟨y2, hy2⟩ : ∃ y2, y2 = f i := ⟨_, rfl⟩
      rw [← hy2] at HA1
      have HY2 := Lib.hid hy2
      have gi1 : (0 : Int) ≤ (i : Int) := by omega
      have gi2 : (i : Int) < (l.length : Int) := by omega
      obtain ⟨j2, hj2⟩ : ∃ j2 : Int, j2 = (i : Int) - 1 := ⟨_, rfl⟩
      have gj : (i : Int) - 1 = j2 := hj2.symm
      have gw : IntKind.i64.wrap j2 = j2 := wr_i64 _ (by omega) (by omega)
      have HJ2 := Lib.hid hj2
      clear hz hy hi HF1 hy2 hj2
      have cf := kf.cell
      have lf := kf.lt
      go_upto_region 5 with fail
      refine wpGO_begin (Later) (later_moves) [] [] [0, 1, 2, 3, 4, 5, 6, 7, 8, 9, 10] (by kernel_rfl) (by kernel_rfl) ?_
      refine wpGO_start (later_moves) ?_
      intro Wc hacc
      repeat (first | (refine wpGO_skip (later_moves) rfl rfl rfl rfl (fun _ _ _ h => h) ?_ ; simp only [Act.put, List.setIfInBounds_toArray, List.set_cons_zero, List.set_cons_succ]) | (refine wpGO_light (v := ?_) (later_moves) rfl rfl rfl rfl (fun _ _ _ h => h) ?_ ?_ ; rotate_left ; (· (intro w' hR ; (first | have hcells := later_cellsD ((later_moves).trans _ _ _ hacc hR) | skip) ; go_simp ; try with_reducible rfl)) ; simp only [Act.put, List.setIfInBounds_toArray, List.set_cons_zero, List.set_cons_succ]))
      refine wpGO_call (later_moves) rfl rfl rfl rfl (fun _ _ _ h => h) (fun _ => by go_simp <;> rfl) (fun w' hR => HM1.out _) ?_
      simp only [Act.put, List.setIfInBounds_toArray, List.set_cons_zero, List.set_cons_succ]
      repeat (first | (refine wpGO_skip (later_moves) rfl rfl rfl rfl (fun _ _ _ h => h) ?_ ; simp only [Act.put, List.setIfInBounds_toArray, List.set_cons_zero, List.set_cons_succ]) | (refine wpGO_light (v := ?_) (later_moves) rfl rfl rfl rfl (fun _ _ _ h => h) ?_ ?_ ; rotate_left ; (· (intro w' hR ; (first | have hcells := later_cellsD ((later_moves).trans _ _ _ hacc hR) | skip) ; go_simp ; try with_reducible rfl)) ; simp only [Act.put, List.setIfInBounds_toArray, List.set_cons_zero, List.set_cons_succ]))
      refine wpGO_call (later_moves) rfl rfl rfl rfl (fun _ _ _ h => h) (fun _ => by go_simp <;> rfl) (fun w' hR => HA1.out _) ?_
      simp only [Act.put, List.setIfInBounds_toArray, List.set_cons_zero, List.set_cons_succ]
      repeat (first | (refine wpGO_skip (later_moves) rfl rfl rfl rfl (fun _ _ _ h => h) ?_ ; simp only [Act.put, List.setIfInBounds_toArray, List.set_cons_zero, List.set_cons_succ]) | (refine wpGO_light (v := ?_) (later_moves) rfl rfl rfl rfl (fun _ _ _ h => h) ?_ ?_ ; rotate_left ; (· (intro w' hR ; (first | have hcells := later_cellsD ((later_moves).trans _ _ _ hacc hR) | skip) ; go_simp ; try with_reducible rfl)) ; simp only [Act.put, List.setIfInBounds_toArray, List.set_cons_zero, List.set_cons_succ]))
      refine wpGO_done rfl ?_
      intro wd hRd
      replace hacc := (later_moves).trans _ _ _ hacc hRd
      clear hRd
      have hxd := below_chain (Below.refl wr.heap.size wr).drew hacc
      replace kf := kf.below hxd kf.lt
      replace hb := below_chain hb hxd
      clear hxd hacc cf lf
      go_wp2
      go_roundw
      case rel => exact ⟨i, j2, Lib.hid (by have := HJ2.out; omega), by omega, rfl, by rw [HY2.out], kf, hb⟩
      case measure => have := HJ2.out; simp [intOf]; omega

/-- The length without the zeros at the end. -/
def cutN (f : Nat → Nat) : Nat → Nat
  | 0 => 0
  | k + 1 => if f k = 0 then cutN f k else k + 1
theorem cutN_le (f : Nat → Nat) : ∀ k, cutN f k ≤ k
  | 0 => Nat.le_refl _
  | k + 1 => by
    rw [cutN]
    split
    · have := cutN_le f k; omega
    · exact Nat.le_refl _
theorem cutN_trim (f : Nat → Nat) : ∀ k, (List.range (cutN f k)).map f = trimZ ((List.range k).map f)
  | 0 => rfl
  | k + 1 => by
    rw [cutN, List.range_succ, List.map_append]
    split
    · rename_i h
      rw [List.map_singleton, h, trimZ_snoc0]
      exact cutN_trim f k
    · rename_i h
      rw [List.map_singleton, trimZ_snoc h, List.range_succ, List.map_append]
      rfl
set_option maxRecDepth 100000 in
set_option maxHeartbeats 1000000 in
theorem pShorten_any (g n c : Nat) (f : Nat → Nat) (w : World) (kg : Blk w g 22 (fillC n f)) (hn : n ≤ 100000) (hc : n ≤ c) :
    Calls Try.prog 89 #[.slice (some ⟨g, 0, none⟩) n c] w fun e w' => e = .returned (.slice (some ⟨g, 0, none⟩) (cutN f n) c) ∧ Below w.heap.size w w' := by
  obtain ⟨m, hm⟩ : ∃ m, m = cutN f n := ⟨_, rfl⟩
  rw [← hm]
  have HM := Lib.hid hm
  have gn : (n : Int) ≤ 100000 := by omega
  clear hm
  go_enter Try.func89, Try.ntmps89
  go_wp2_with fail
  go_loopw [3] (fun y wr => ∃ k : Nat, k ≤ n ∧ y = .int .i64 (k : Int) ∧ Hid (cutN f k = m) ∧ Below w.heap.size w wr) (fun y _ => (intOf y).toNat)
  case atStart => exact ⟨n, Nat.le_refl _, rfl, Lib.hid HM.out.symm, Below.refl _ _⟩
  case round =>
    obtain ⟨k, hk, rfl, HK, hb⟩ := hrel
    rcases Nat.eq_zero_or_pos k with h0 | h0
    · subst h0
      have hm0 : m = 0 := by rw [← HK.out]; rfl
      subst hm0
      go_wp2
      go_ret
      exact ⟨rfl, hb⟩
    · obtain ⟨j, hj⟩ : ∃ j, j = k - 1 := ⟨_, rfl⟩
      have g1 : (0 : Int) < (k : Int) := by omega
      have g2 : (k : Int) - 1 = (j : Int) := by omega
      have g3 : IntKind.i64.wrap (j : Int) = (j : Int) := wr_i64 _ (by omega) (by omega)
      have g4 : (j : Int) < (n : Int) := by omega
      have g5 : (0 : Int) ≤ (j : Int) := by omega
      have hjk : k = j + 1 := by omega
      have kg2 := kg.below hb kg.lt
      have cg := kg2.cell j
      rw [fill_get _ (by omega)] at cg
      have hm2 : cutN f k = if f j = 0 then cutN f j else j + 1 := by rw [hjk]; rfl
      have HM2 := Lib.hid hm2
      have HJK := Lib.hid hjk
      have g6 : k ≤ c := by omega
      have g7 : j ≤ n := by omega
      have g8 : (k : Int) ≤ (c : Int) := by omega
      have g9 : k ≤ n := hk
      obtain ⟨x, hx⟩ : ∃ x, x = f j := ⟨_, rfl⟩
      rw [← hx] at cg
      have HX := Lib.hid hx
      clear hj hm2 hjk hx kg2
      by_cases hx0 : x = 0
      · subst hx0
        have HN := Lib.hid (show cutN f j = m by rw [← HK.out, HM2.out, if_pos HX.out.symm])
        go_wp2
        go_roundw
        case rel => exact ⟨j, g7, rfl, HN, hb⟩
        case measure => have := HJK.out; simp [intOf]; omega
      · have d0 : ((x : Int) == 0) = false := by rw [beq_eq_false_iff_ne]; omega
        have hmk : m = k := by rw [← HK.out, HM2.out, if_neg (by rw [← HX.out]; exact hx0), HJK.out]
        subst hmk
        go_wp2
        go_ret
        exact ⟨rfl, hb⟩

end Go.Proofs.Ytefnagiffllhbaa

/- PlB -/
namespace Go.Proofs.Ytefnagiffllhbaa
open Go.RowKit

set_option maxRecDepth 100000 in
set_option maxHeartbeats 1000000 in
theorem tDomain_any (p s n : Nat) (w : World) (hp : okP p = true) (hn : LenOk p n) (hs : s % p ≠ 0) :
    Calls Try.prog 82 #[fv p, .int .u64 (s : Int), .int .i64 (n : Int)] w fun e w' => ∃ g, e = .returned (.tuple #[.slice (some ⟨g, 0, none⟩) n n, .int .i64 0]) ∧ w.heap.size ≤ g ∧ Blk w' g 22 (fillC n (domR p s n)) ∧ Below w.heap.size w w' := by
  have hn4 := hn.le
  have HV := Lib.hid (fun w => fValid_any p w hp)
  have HR := Lib.hid (fun w => tRoot_any p n w hp hn)
  have HD := Lib.hid (fun w => fReduce_any p s w hp)
  have HM := Lib.hid (fun a b w => fMul_any p a b w hp)
  obtain ⟨r, hr⟩ : ∃ r, r = rootP p n := ⟨_, rfl⟩
  obtain ⟨x0, hx0⟩ : ∃ x0, x0 = s % p := ⟨_, rfl⟩
  obtain ⟨F, hF⟩ : ∃ F, F = domR p s n := ⟨_, rfl⟩
  have HF0 := Lib.hid (show F 0 = x0 by rw [hF, hx0]; rfl)
  have HF := Lib.hid (show ∀ k, F (k + 1) = F k * r % p from fun k => by rw [hF, hr]; rfl)
  rw [← hr] at HR
  rw [← hx0] at HD hs
  rw [← hF]
  have d0 : ((x0 : Int) == 0) = false := by rw [beq_eq_false_iff_ne]; omega
  have mk := mk_words n (by omega)
  have gn : (n : Int) ≤ 4096 := by omega
  have gn0 : (0 : Int) ≤ (n : Int) := by omega
  clear hr hx0 hF hp hn hs
  unfold fv at *
  have kf := Blk.new w 88 #[.int .u64 (p : Int)]
  have hb0 : Below w.heap.size w (w.alloc (.cells #[.int .u64 (p : Int)] 88)) := (Below.refl _ _).alloc (Nat.le_refl _) _
  go_enter Try.func82, Try.ntmps82
  go_wp2_with fail
  generalize w.alloc _ = w1 at kf hb0 ⊢
  refine (HV.out _).mono ?_
  rintro e w2 ⟨rfl, hbx⟩
  replace kf := kf.below hbx kf.lt
  replace hb0 := below_chain hb0 hbx
  clear hbx
  have cf := kf.cell
  go_wp2_with fail
  refine (HR.out _).mono ?_
  rintro e w3 ⟨rfl, hbx⟩
  replace kf := kf.below hbx kf.lt
  replace hb0 := below_chain hb0 hbx
  clear hbx cf
  have cf := kf.cell
  go_wp2_with fail
  refine (HD.out _).mono ?_
  rintro e w4 ⟨rfl, hbx⟩
  replace kf := kf.below hbx kf.lt
  replace hb0 := below_chain hb0 hbx
  clear hbx cf
  have cf := kf.cell
  go_wp2_with fail
  have kg := Blk.new w4 22 (fillC n fun _ => 0)
  have hal := (Below.refl w4.heap.size w4).alloc (Nat.le_refl _) (.cells (fillC n fun _ => 0) 22)
  have hg1 : w.heap.size < w4.heap.size := kf.lt
  replace kf := kf.below hal kf.lt
  replace hb0 := below_chain hb0 hal
  clear hal mk cf
  generalize w4.alloc _ = w5 at kf kg hb0 ⊢
  generalize w4.heap.size = g at kg hg1 ⊢
  have H0 := Lib.hid (upTo_zero n F fun _ => 0)
  go_loopw [1, 34] (fun y i wr => ∃ k : Nat, k ≤ n ∧ i = .int .i64 (k : Int) ∧ y = .int .u64 (F k : Int) ∧ Blk wr w.heap.size 88 #[.int .u64 (p : Int)] ∧ Blk wr g 22 (fillC n (upTo F (fun _ => 0) k)) ∧ Below w.heap.size w wr) (fun _ i _ => n - (intOf i).toNat)
  case atStart => exact ⟨0, Nat.zero_le _, rfl, by rw [HF0.out], kf, by rw [H0.out]; exact kg, hb0⟩
  case round =>
    clear kf kg hb0
    obtain ⟨k, hk, rfl, rfl, kf, kg, hb0⟩ := hrel
    by_cases hlt : k < n
    · have q1 : (k : Int) < (n : Int) := by omega
      have q2 : (0 : Int) ≤ (k : Int) := by omega
      obtain ⟨z, hz⟩ : ∃ z, z = F k := ⟨_, rfl⟩
      obtain ⟨z2, hz2⟩ : ∃ z2, z2 = F (k + 1) := ⟨_, rfl⟩
      have HST := Lib.hid (upTo_set (n := n) (G := fun _ => 0) hz)
      have HF1 := Lib.hid (HF.out k)
      rw [← hz, ← hz2] at HF1
      have HM1 := Lib.hid (fun w => by have := HM.out z r w; rw [← HF1.out] at this; exact this)
      have HZ2 := Lib.hid hz2
      rw [← hz]
      clear hz hz2 HF1
      have cg := kg.cell k
      rw [upTo_get _ _ hlt] at cg
      have fg := kg.frozen
      have lg := kg.lt
      have cf := kf.cell
      have lf := kf.lt
      have nfg : w.heap.size ≠ g := by omega
      go_upto_region 12 with fail
      have hg := set_only (w := wr) g k (.int .u64 (z : Int))
      replace kg := kg.set_ k (.int .u64 (z : Int))
      rw [HST.out] at kg
      replace kf := kf.grown hg (fun e => by have := Option.some.inj e; first | omega | (exact absurd this (by assumption)) | (exact absurd this.symm (by assumption)))
      replace hb0 := hb0.trans (below_of_only hg hb0.size (by omega))
      clear hg cg fg lg cf lf
      generalize wr.setCell _ _ = w6 at kf kg hb0 ⊢
      have cf := kf.cell
      go_wp2_with fail
      refine (HM1.out _).mono ?_
      rintro e w7 ⟨rfl, hbx⟩
      replace kf := kf.below hbx kf.lt
      replace kg := kg.below hbx kg.lt
      replace hb0 := below_chain hb0 hbx
      clear hbx cf
      go_wp2_with fail
      go_roundw
      case rel => exact ⟨k + 1, by omega, by go_num, by rw [HZ2.out], kf, kg, hb0⟩
      case measure => simp [intOf]; omega
    · obtain rfl : k = n := by omega
      have q1 : ¬ ((k : Int) < (k : Int)) := by omega
      rw [upTo_all] at kg
      go_wp2
      go_ret2
      exact ⟨g, rfl, by omega, kg, hb0⟩

set_option maxRecDepth 100000 in
set_option maxHeartbeats 1000000 in
theorem pPoints_any (L : LayR) (w : World) (hL : LayOk L) :
    Calls Try.prog 42 #[.agg (layCs L)] w fun e w' => ∃ g1 g2, e = .returned (.tuple #[.slice (some ⟨g1, 0, none⟩) L.block L.block, .slice (some ⟨g2, 0, none⟩) L.n L.n]) ∧ Blk w' g1 22 (fillC L.block (domR L.p 1 L.block)) ∧ Blk w' g2 22 (fillC L.n (domR L.p (rowOf L.p).1 L.n)) ∧ w.heap.size ≤ g1 ∧ w.heap.size ≤ g2 ∧ Below w.heap.size w w' := by
  obtain ⟨hp1, hp2⟩ := okP_lt hL.p
  have H1 := Lib.hid (fun w => tDomain_any L.p 1 L.block w hL.p (layLen hL).1 (by rw [Nat.mod_eq_of_lt (by omega)]; decide))
  have H2 := Lib.hid (fun w => tDomain_any L.p (rowOf L.p).1 L.n w hL.p (layLenN hL).1 (gen_mod hL.p))
  have HG := Lib.hid (fun w => fGen_any L.p w hL.p)
  generalize (rowOf L.p).1 = gn at *
  clear hL hp1 hp2
  unfold layCs fv at *
  obtain ⟨kl, kf, hb0, hsz⟩ := boxes2 w 41 88 #[.int .u64 (L.p : Int), .int .i64 (L.block : Int), .int .i64 (L.queries : Int), .int .i64 (L.k : Int), .int .i64 (L.n : Int), .int .i64 (L.secret : Int), .int .i64 (L.rows : Int), .int .i64 (L.a : Int), .int .i64 (L.b : Int), .int .i64 (L.b : Int), .int .i64 (L.b : Int)] #[.int .u64 (L.p : Int)]
  go_enter Try.func42, Try.ntmps42
  go_upto_region 2 with fail
  generalize (w.alloc _).alloc _ = w1 at kl kf hb0 hsz ⊢
  have hs1 : w.heap.size + 2 ≤ w1.heap.size := by omega
  clear hsz
  have cl := kl.cell
  have cf := kf.cell
  have ll := kl.lt
  have lf := kf.lt
  go_wp2_with fail
  refine (H1.out _).mono ?_
  rintro e w2 ⟨g1, rfl, hg1, k1, hbx⟩
  replace kl := kl.below hbx kl.lt
  replace kf := kf.below hbx kf.lt
  replace hb0 := below_chain hb0 hbx
  have hs2 := Nat.le_trans hs1 hbx.size
  clear hbx cl cf ll lf
  have cl := kl.cell
  have cf := kf.cell
  have ll := kl.lt
  have lf := kf.lt
  go_upto_region 3 with fail
  refine wpO_begin (Later) [2, 5] [0, 1, 3, 4, 2, 5, 6, 7, 8, 9, 10] (by kernel_rfl) (by kernel_rfl) ?_
  refine wpO_startK (later_moves) ?_
  intro Wc HWc hacc
  have hbW : Below w2.heap.size w2 Wc := by rw [HWc.out]; exact (Below.refl _ _).drew
  replace k1 := k1.below hbW k1.lt
  replace hb0 := below_chain hb0 hbW
  have hs3 := Nat.le_trans hs2 hbW.size
  repeat (first | (refine wpO_skip (later_moves) rfl rfl (fun _ _ _ h => h) ?_ ; simp only [Act.put, List.setIfInBounds_toArray, List.set_cons_zero, List.set_cons_succ]) | (refine wpO_light (v := ?_) (later_moves) rfl rfl (fun _ _ _ h => h) ?_ ?_ ; rotate_left ; (· (intro w' hR ; (first | have hcells := later_cellsD ((later_moves).trans _ _ _ hacc hR) | skip) ; go_simp ; try with_reducible rfl)) ; simp only [Act.put, List.setIfInBounds_toArray, List.set_cons_zero, List.set_cons_succ]))
  refine wpO_call (later_moves) rfl rfl rfl (fun _ => by go_simp <;> rfl) ((HG.out _).mono ?_)
  rintro e w3 ⟨rfl, hb3⟩
  refine ⟨_, rfl, hb3, ?_⟩
  replace hacc := (later_moves).trans _ _ _ hacc (hb3)
  simp only [Act.put, List.setIfInBounds_toArray, List.set_cons_zero, List.set_cons_succ]
  replace k1 := k1.below hb3 k1.lt
  replace hb0 := below_chain hb0 hb3
  have hs4 := Nat.le_trans hs3 hb3.size
  repeat (first | (refine wpO_skip (later_moves) rfl rfl (fun _ _ _ h => h) ?_ ; simp only [Act.put, List.setIfInBounds_toArray, List.set_cons_zero, List.set_cons_succ]) | (refine wpO_light (v := ?_) (later_moves) rfl rfl (fun _ _ _ h => h) ?_ ?_ ; rotate_left ; (· (intro w' hR ; (first | have hcells := later_cellsD ((later_moves).trans _ _ _ hacc hR) | skip) ; go_simp ; try with_reducible rfl)) ; simp only [Act.put, List.setIfInBounds_toArray, List.set_cons_zero, List.set_cons_succ]))
  refine wpO_call (later_moves) rfl rfl rfl (fun _ => by go_simp <;> rfl) ((H2.out _).mono ?_)
  rintro e w4 ⟨g2, rfl, hg2, k2, hb4⟩
  refine ⟨_, rfl, hb4, ?_⟩
  replace hacc := (later_moves).trans _ _ _ hacc (hb4)
  simp only [Act.put, List.setIfInBounds_toArray, List.set_cons_zero, List.set_cons_succ]
  replace k1 := k1.below hb4 k1.lt
  replace hb0 := below_chain hb0 hb4
  repeat (first | (refine wpO_skip (later_moves) rfl rfl (fun _ _ _ h => h) ?_ ; simp only [Act.put, List.setIfInBounds_toArray, List.set_cons_zero, List.set_cons_succ]) | (refine wpO_light (v := ?_) (later_moves) rfl rfl (fun _ _ _ h => h) ?_ ?_ ; rotate_left ; (· (intro w' hR ; (first | have hcells := later_cellsD ((later_moves).trans _ _ _ hacc hR) | skip) ; go_simp ; try with_reducible rfl)) ; simp only [Act.put, List.setIfInBounds_toArray, List.set_cons_zero, List.set_cons_succ]))
  refine wpO_done ?_
  go_wp2
  go_ret2
  exact ⟨g1, g2, rfl, k1, k2, by omega, by omega, hb0⟩

/-- The quotient by X - x. -/
def woP (p x : Nat) (P : List Nat) (i : Nat) : Nat := hornP p x (P.drop (i + 1))
theorem woP_step (p x : Nat) (P : List Nat) {k : Nat} (h : k + 1 < P.length) : woP p x P k = (P.getD (k + 1) 0 + woP p x P (k + 1) * x % p) % p := by
  unfold woP
  rw [hornP_drop p x P (k + 1) h, Nat.add_comm]
theorem woP_end (p x : Nat) (P : List Nat) {k : Nat} (h : P.length ≤ k + 1) : woP p x P k = 0 := by
  unfold woP
  rw [List.drop_eq_nil_of_le h]
  rfl
def fromK (F : Nat → Nat) (k : Nat) : Nat → Nat := fun i => if i < k then 0 else F i
theorem fromK_set {n i v : Nat} {F : Nat → Nat} (h : v = F i) : (fillC n (fromK F (i + 1))).setIfInBounds i (.int .u64 (v : Int)) = fillC n (fromK F i) := by
  rw [fill_set]
  refine fill_same fun k _ => ?_
  simp only [putF, fromK]
  by_cases e : k = i
  · subst e; rw [if_pos rfl, if_neg (by omega), h]
  · rw [if_neg e]
    by_cases h2 : k < i
    · rw [if_pos (by omega), if_pos h2]
    · rw [if_neg (by omega), if_neg h2]
theorem fromK_all (n : Nat) (F : Nat → Nat) : fillC n (fromK F n) = fillC n fun _ => 0 := fill_same fun k hk => by simp [fromK, hk]
theorem fromK_zero (n : Nat) (F : Nat → Nat) : fillC n (fromK F 0) = fillC n F := fill_same fun k _ => by simp [fromK]

set_option maxRecDepth 100000 in
set_option maxHeartbeats 1000000 in
theorem pWithout_any (p x : Nat) (A : Option Addr) (m c : Nat) (P : List Nat) (w : World) (hp : okP p = true) (hl : RWd w [.slice A m c] P) (hm1 : 1 ≤ m) (hm : m ≤ 100000) :
    Calls Try.prog 88 #[fv p, .slice A m c, .int .u64 (x : Int)] w fun e w' => ∃ g, e = .returned (.slice (some ⟨g, 0, none⟩) (m - 1) (m - 1)) ∧ w.heap.size ≤ g ∧ Blk w' g 22 (fillC (m - 1) (woP p x P)) ∧ Below w.heap.size w w' := by
  obtain ⟨rfl, h1, h2, hlt, hrd⟩ := lw_at hl
  have gm := lw_max h1 h2
  have HM := Lib.hid (fun a b w => fMul_any p a b w hp)
  have HA := Lib.hid (fun a b w => fAdd_any p a b w hp)
  obtain ⟨n, hn⟩ : ∃ n, n = P.length - 1 := ⟨_, rfl⟩
  rw [← hn]
  obtain ⟨F, hF⟩ : ∃ F, F = woP p x P := ⟨_, rfl⟩
  have HFS := Lib.hid (show ∀ k, k < n → F k = (P.getD (k + 1) 0 + F (k + 1) * x % p) % p from fun k hk => by rw [hF]; exact woP_step p x P (by omega))
  have HFE := Lib.hid (show F n = 0 by rw [hF]; exact woP_end p x P (by omega))
  rw [← hF]
  have e1 : (P.length : Int) - 1 = (n : Int) := by omega
  have e2 : IntKind.i64.wrap (n : Int) = (n : Int) := wr_i64 _ (by omega) (by omega)
  obtain ⟨m0, hm0⟩ : ∃ m0 : Int, m0 = (n : Int) - 1 := ⟨_, rfl⟩
  have e3 : (n : Int) - 1 = m0 := hm0.symm
  have e4 : IntKind.i64.wrap m0 = m0 := wr_i64 _ (by omega) (by omega)
  have mk := mk_words n (by omega)
  have gn : (n : Int) ≤ 100000 := by omega
  have gn0 : (0 : Int) ≤ (n : Int) := by omega
  have HMM := Lib.hid hm0
  have HN := Lib.hid (show n + 1 = P.length by omega)
  clear hF hl hp hn hm0 h1 h2 hlt hm hm1
  unfold fv at *
  have kf := Blk.new w 88 #[.int .u64 (p : Int)]
  have hb0 : Below w.heap.size w (w.alloc (.cells #[.int .u64 (p : Int)] 88)) := (Below.refl _ _).alloc (Nat.le_refl _) _
  go_enter Try.func88, Try.ntmps88
  go_upto_region 1 with fail
  generalize w.alloc _ = w1 at kf hb0 ⊢
  go_wp2_with fail
  have kg := Blk.new w1 22 (fillC n fun _ => 0)
  have hal := (Below.refl w1.heap.size w1).alloc (Nat.le_refl _) (.cells (fillC n fun _ => 0) 22)
  have hg1 : w.heap.size < w1.heap.size := kf.lt
  replace kf := kf.below hal kf.lt
  replace hb0 := below_chain hb0 hal
  clear hal mk e1 e2 e3 e4
  generalize w1.alloc _ = w5 at kf kg hb0 ⊢
  generalize w1.heap.size = g at kg hg1 ⊢
  have H0 := Lib.hid (fromK_all n F)
  go_loopw [8, 9] (fun y i wr => ∃ (k : Nat) (j : Int), Hid (j + 1 = (k : Int)) ∧ k ≤ n ∧ i = .int .i64 j ∧ y = .int .u64 (F k : Int) ∧ Blk wr w.heap.size 88 #[.int .u64 (p : Int)] ∧ Blk wr g 22 (fillC n (fromK F k)) ∧ Below w.heap.size w wr) (fun _ i _ => (intOf i + 1).toNat)
  case atStart => exact ⟨n, m0, Lib.hid (by have := HMM.out; omega), Nat.le_refl _, rfl, by rw [HFE.out]; rfl, kf, by rw [H0.out]; exact kg, hb0⟩
  case round =>
    clear kf kg hb0
    obtain ⟨k, j, HJ, hk, rfl, rfl, kf, kg, hb⟩ := hrel
    rcases Nat.eq_zero_or_pos k with h0 | h0
    · subst h0
      have hj : j = -1 := by have := HJ.out; omega
      subst hj
      rw [fromK_zero] at kg
      go_wp2
      go_ret
      exact ⟨g, rfl, by omega, kg, hb⟩
    · obtain ⟨i, hi⟩ : ∃ i, i = k - 1 := ⟨_, rfl⟩
      have hj : j = (i : Int) := by have := HJ.out; omega
      subst hj
      have hin : i < n := by omega
      have hk1 : k = i + 1 := by omega
      have hil : k < P.length := by have := HN.out; omega
      obtain ⟨b, q, rfl, hbl, hc⟩ := lw_get (hrd.below hb) hil
      have HF1 := Lib.hid (HFS.out i hin)
      rw [← hk1] at HF1
      obtain ⟨y, hy⟩ : ∃ y, y = F k := ⟨_, rfl⟩
      rw [← hy] at HF1 ⊢
      generalize P.getD k 0 = a at *
      obtain ⟨z, hz⟩ : ∃ z, z = y * x % p := ⟨_, rfl⟩
      have HM1 := Lib.hid (fun w => by have := HM.out y x w; rw [← hz] at this; exact this)
      rw [← hz] at HF1
      have HA1 := Lib.hid (fun w => by have := HA.out a z w; rw [← HF1.out] at this; exact this)
      obtain ⟨y2, hy2⟩ : ∃ y2, y2 = F i := ⟨_, rfl⟩
      rw [← hy2] at HA1
      have HST := Lib.hid (fromK_set (n := n) hy2)
      rw [← hk1] at HST
      have HY2 := Lib.hid hy2
      have gi1 : (0 : Int) ≤ (i : Int) := by omega
      have gi2 : (k : Int) < (P.length : Int) := by omega
      have gi3 : (i : Int) < (n : Int) := by omega
      have gi4 : (i : Int) + 1 = (k : Int) := by omega
      have gi5 : IntKind.i64.wrap (k : Int) = (k : Int) := wr_i64 _ (by omega) (by omega)
      have gi6 : (0 : Int) ≤ (k : Int) := by omega
      obtain ⟨j2, hj2⟩ : ∃ j2 : Int, j2 = (i : Int) - 1 := ⟨_, rfl⟩
      have gj : (i : Int) - 1 = j2 := hj2.symm
      have gw : IntKind.i64.wrap j2 = j2 := wr_i64 _ (by omega) (by omega)
      have HJ2 := Lib.hid hj2
      have hle : i ≤ n := by omega
      clear hz hy hi HF1 hy2 hj2 hk1
      have cf := kf.cell
      have lf := kf.lt
      go_upto_region 6 with fail
      refine wpGO_begin (Later) (later_moves) [] [] [0, 1, 2, 3, 4, 5, 6, 7, 8, 9, 10, 11] (by kernel_rfl) (by kernel_rfl) ?_
      refine wpGO_start (later_moves) ?_
      intro Wc hacc
      repeat (first | (refine wpGO_skip (later_moves) rfl rfl rfl rfl (fun _ _ _ h => h) ?_ ; simp only [Act.put, List.setIfInBounds_toArray, List.set_cons_zero, List.set_cons_succ]) | (refine wpGO_light (v := ?_) (later_moves) rfl rfl rfl rfl (fun _ _ _ h => h) ?_ ?_ ; rotate_left ; (· (intro w' hR ; (first | have hcells := later_cellsD ((later_moves).trans _ _ _ hacc hR) | skip) ; go_simp ; try with_reducible rfl)) ; simp only [Act.put, List.setIfInBounds_toArray, List.set_cons_zero, List.set_cons_succ]))
      refine wpGO_call (later_moves) rfl rfl rfl rfl (fun _ _ _ h => h) (fun _ => by go_simp <;> rfl) (fun w' hR => HM1.out _) ?_
      simp only [Act.put, List.setIfInBounds_toArray, List.set_cons_zero, List.set_cons_succ]
      repeat (first | (refine wpGO_skip (later_moves) rfl rfl rfl rfl (fun _ _ _ h => h) ?_ ; simp only [Act.put, List.setIfInBounds_toArray, List.set_cons_zero, List.set_cons_succ]) | (refine wpGO_light (v := ?_) (later_moves) rfl rfl rfl rfl (fun _ _ _ h => h) ?_ ?_ ; rotate_left ; (· (intro w' hR ; (first | have hcells := later_cellsD ((later_moves).trans _ _ _ hacc hR) | skip) ; go_simp ; try with_reducible rfl)) ; simp only [Act.put, List.setIfInBounds_toArray, List.set_cons_zero, List.set_cons_succ]))
      refine wpGO_call (later_moves) rfl rfl rfl rfl (fun _ _ _ h => h) (fun _ => by go_simp <;> rfl) (fun w' hR => HA1.out _) ?_
      simp only [Act.put, List.setIfInBounds_toArray, List.set_cons_zero, List.set_cons_succ]
      repeat (first | (refine wpGO_skip (later_moves) rfl rfl rfl rfl (fun _ _ _ h => h) ?_ ; simp only [Act.put, List.setIfInBounds_toArray, List.set_cons_zero, List.set_cons_succ]) | (refine wpGO_light (v := ?_) (later_moves) rfl rfl rfl rfl (fun _ _ _ h => h) ?_ ?_ ; rotate_left ; (· (intro w' hR ; (first | have hcells := later_cellsD ((later_moves).trans _ _ _ hacc hR) | skip) ; go_simp ; try with_reducible rfl)) ; simp only [Act.put, List.setIfInBounds_toArray, List.set_cons_zero, List.set_cons_succ]))
      refine wpGO_done rfl ?_
      intro wd hRd
      replace hacc := (later_moves).trans _ _ _ hacc hRd
      clear hRd
      have hxd := below_chain (Below.refl wr.heap.size wr).drew hacc
      replace kf := kf.below hxd kf.lt
      replace kg := kg.below hxd kg.lt
      replace hb := below_chain hb hxd
      clear hxd hacc cf lf hc hbl
      have cg := kg.cell i
      rw [fill_get _ hin] at cg
      have fg := kg.frozen
      have lg := kg.lt
      go_upto_region 5 with fail
      have hg := set_only (w := wd) g i (.int .u64 (y2 : Int))
      have nfg : w.heap.size ≠ g := by omega
      replace kg := kg.set_ i (.int .u64 (y2 : Int))
      rw [HST.out] at kg
      replace kf := kf.grown hg (fun e => by have := Option.some.inj e; first | omega | (exact absurd this (by assumption)) | (exact absurd this.symm (by assumption)))
      replace hb := hb.trans (below_of_only hg hb.size (by omega))
      clear hg cg fg lg
      generalize wd.setCell _ _ = w6 at kf kg hb ⊢
      go_wp2
      go_roundw
      case rel => exact ⟨i, j2, Lib.hid (by have := HJ2.out; omega), hle, rfl, by rw [HY2.out], kf, kg, hb⟩
      case measure => have := HJ2.out; simp [intOf]; omega
end Go.Proofs.Ytefnagiffllhbaa

/- PlC -/
namespace Go.Proofs.Ytefnagiffllhbaa
open Go.RowKit

/-- The product of X - x for the first k points. -/
def vanV (p : Nat) (xs : List Nat) : Nat → Nat → Nat
  | 0 => fun i => if i = 0 then 1 else 0
  | k + 1 => fun i => if i = 0 then negP p (vanV p xs k 0 * xs.getD k 0 % p) else if i ≤ k + 1 then (vanV p xs k (i - 1) + negP p (vanV p xs k i * xs.getD k 0 % p)) % p else 0
theorem vanV_out (p : Nat) (xs : List Nat) : ∀ k i, k < i → vanV p xs k i = 0
  | 0, i, h => by
    show (if i = 0 then 1 else 0) = 0
    rw [if_neg (by omega)]
  | k + 1, i, h => by rw [vanV]; simp only []; rw [if_neg (by omega), if_neg (by omega)]
theorem vanV_lt {p : Nat} (hp : 1 < p) (xs : List Nat) : ∀ k i, vanV p xs k i < p
  | 0, i => by rw [vanV]; simp only []; split <;> omega
  | k + 1, i => by
    rw [vanV]
    simp only []
    split
    · exact negP_lt _ _ (by omega)
    · split
      · exact Nat.mod_lt _ (by omega)
      · omega
/-- Where the loop over the coefficients stands. -/
def midV (V N : Nat → Nat) (i : Nat) : Nat → Nat := fun j => if i < j then N j else V j
theorem row_set {n i v : Nat} (F : Nat → Nat) : (U64 ((List.range n).map F)).set i (.int .u64 (v : Int)) = U64 ((List.range n).map (putF F i v)) := by
  have := fill_set (n := n) F i v
  rw [fill_U64, fill_U64] at this
  have h2 := congrArg Array.toList this
  simpa using h2
theorem row_same {n : Nat} {F G : Nat → Nat} (h : ∀ i, i < n → F i = G i) : U64 ((List.range n).map F) = U64 ((List.range n).map G) := by
  rw [List.map_congr_left fun i hi => h i (List.mem_range.1 hi)]
theorem row_get {n i : Nat} (F : Nat → Nat) (h : i < n) : (U64 ((List.range n).map F))[i]? = some (.int .u64 (F i : Int)) := by simp [U64, h]
theorem mid_step {n i v : Nat} {V N : Nat → Nat} (hi : 0 < i) (hv : v = N i) : (U64 ((List.range n).map (midV V N i))).set i (.int .u64 (v : Int)) = U64 ((List.range n).map (midV V N (i - 1))) := by
  rw [row_set]
  refine row_same fun j _ => ?_
  simp only [putF, midV]
  by_cases e : j = i
  · subst e; rw [if_pos rfl, if_pos (by omega), hv]
  · rw [if_neg e]
    by_cases h : i < j
    · rw [if_pos h, if_pos (by omega)]
    · rw [if_neg h, if_neg (by omega)]
theorem mk_one (n : Nat) (hn : n ≤ 1000000) (h1 : 1 ≤ n) (w : World) :
    (Instr.makeSlice 28 (.int .i64 1) (.int .i64 (n : Int))).run Try.prog w = .ok (.slice (some ⟨w.heap.size, 0, none⟩) 1 n) (w.alloc (.cells (fillC n fun _ => 0) 22)) := by
  obtain ⟨ht, ⟨i, hi, hz, hs, hby⟩, hzs, hsz⟩ := el_w
  have := run_make (P := Try.prog) w 28 22 i _ ht hi hz .i64 .i64 1 (n : Int) (by omega) (by omega) (by rw [hby]; omega) (by omega)
  rw [Int.toNat_natCast, hs, made_words] at this
  exact this
theorem own_make1 (n base : Nat) (hn : n ≤ 1000000) (h1 : 1 ≤ n) (w : World) (hb : base ≤ w.heap.size) : (w.alloc (.cells (fillC n fun _ => 0) 22)).ownsRow base 22 1 (.slice (some ⟨w.heap.size, 0, none⟩) 1 n) 1 (U64 [0]) := by
  have hnew : (w.alloc (.cells (fillC n fun _ => 0) 22)).heap[w.heap.size]? = some (.cells (fillC n fun _ => 0) 22 (0, 0)) := Blk.new w 22 (fillC n fun _ => 0)
  refine ⟨rfl, .inr ⟨w.heap.size, n, fillC n fun _ => 0, rfl, hb, hnew, h1, by simp [maxLen]; omega, by simp [fillC], ?_⟩⟩
  obtain ⟨m, rfl⟩ : ∃ m, n = m + 1 := ⟨n - 1, by omega⟩
  rw [fill_zero, List.replicate_succ]
  rfl

set_option maxRecDepth 100000 in
set_option maxHeartbeats 2000000 in
theorem pVanishing_any (p : Nat) (A : Option Addr) (m c : Nat) (xs : List Nat) (w : World) (hp : okP p = true) (hl : RWd w [.slice A m c] xs) (hm : m ≤ 1000) :
    Calls Try.prog 87 #[fv p, .slice A m c] w fun e w' => ∃ v, e = .returned v ∧ w'.ownsRow w.heap.size 22 1 v (m + 1) (U64 ((List.range (m + 1)).map (vanV p xs m))) ∧ Below w.heap.size w w' := by
  obtain ⟨rfl, h1, h2, hlt, hrd⟩ := lw_at hl
  have HV := Lib.hid (fun w => fValid_any p w hp)
  have HM := Lib.hid (fun a b w => fMul_any p a b w hp)
  have HS := Lib.hid (fun a b w => fSub_any p a b w hp)
  have HN := Lib.hid (fun a w => fNeg_any p a w hp)
  obtain ⟨V, hV⟩ : ∃ V, V = vanV p xs := ⟨_, rfl⟩
  have HV0 := Lib.hid (show ∀ i, V 0 i = if i = 0 then 1 else 0 from fun i => by rw [hV]; rfl)
  have HVO := Lib.hid (show ∀ k i, k < i → V k i = 0 from fun k i h => by rw [hV]; exact vanV_out p xs k i h)
  have HVS := Lib.hid (show ∀ k i, 0 < i → i ≤ k + 1 → V (k + 1) i = (V k (i - 1) + negP p (V k i * xs.getD k 0 % p)) % p from fun k i h h' => by
    rw [hV, vanV]
    simp only []
    rw [if_neg (by omega), if_pos h'])
  have HVZ := Lib.hid (show ∀ k, V (k + 1) 0 = negP p (V k 0 * xs.getD k 0 % p) from fun k => by rw [hV]; rfl)
  rw [← hV]
  obtain ⟨n, hn⟩ : ∃ n, n = xs.length + 1 := ⟨_, rfl⟩
  rw [← hn]
  have e1 : (xs.length : Int) + 1 = (n : Int) := by omega
  have e2 : IntKind.i64.wrap (n : Int) = (n : Int) := wr_i64 _ (by omega) (by omega)
  have mk := mk_one n (by omega) (by omega)
  have hn1 : 1 ≤ n := by omega
  have hn2 : n ≤ 1001 := by omega
  have gn : (n : Int) ≤ 1001 := by omega
  have gn1 : (1 : Int) ≤ (n : Int) := by omega
  have gm : (xs.length : Int) ≤ 1000 := by omega
  have HNX := Lib.hid hn
  clear hV hl hp h1 h2 hlt hn
  unfold fv at *
  have kf := Blk.new w 88 #[.int .u64 (p : Int)]
  have hb0 : Below w.heap.size w (w.alloc (.cells #[.int .u64 (p : Int)] 88)) := (Below.refl _ _).alloc (Nat.le_refl _) _
  go_enter Try.func87, Try.ntmps87
  go_wp2_with fail
  generalize w.alloc _ = w1 at kf hb0 ⊢
  refine (HV.out _).mono ?_
  rintro e w2 ⟨rfl, hbx⟩
  replace kf := kf.below hbx kf.lt
  replace hb0 := below_chain hb0 hbx
  clear hbx
  have hg0 : w.heap.size < w2.heap.size := kf.lt
  go_upto_region 4 with fail
  have hown := own_make1 n (w.heap.size + 1) (by omega) hn1 w2 hg0
  have hal := (Below.refl w2.heap.size w2).alloc (Nat.le_refl _) (.cells (fillC n fun _ => 0) 22)
  replace kf := kf.below hal kf.lt
  replace hb0 := below_chain hb0 hal
  clear hal mk
  generalize w2.alloc _ = w3 at kf hb0 hown ⊢
  generalize w2.heap.size = g at hown hg0 ⊢
  have cg : w3.cell? ⟨g, 0, none⟩ = some (.int .u64 0) := by rw [hown.cellAt 0 (by omega)]; rfl
  have fg := hown.frozenAt
  have lg : g < w3.heap.size := World.block_lt_of_cell? _ _ cg
  go_upto_region 5 with fail
  obtain ⟨hown2, hg⟩ := hown.stored 0 (.int .u64 1)
  replace hown2 : (w3.setCell ⟨g, 0, none⟩ (.int .u64 1)).ownsRow (w.heap.size + 1) 22 1 (.slice (some ⟨g, 0, none⟩) 1 n) (0 + 1) (U64 ((List.range (0 + 1)).map (V 0))) := by
    have e : U64 ((List.range (0 + 1)).map (V 0)) = (U64 [0]).set 0 (.int .u64 1) := by
      simp [U64, HV0.out]
    rw [e]
    exact hown2
  replace kf := kf.grown hg (fun e => by have := Option.some.inj e; first | omega | (exact absurd this (by assumption)) | (exact absurd this.symm (by assumption)))
  replace hb0 := hb0.trans (below_of_only hg hb0.size (by omega))
  clear hg cg fg lg hown
  generalize w3.setCell _ _ = w4 at kf hb0 hown2 ⊢
  go_wp2_with fail
  go_loopw [5, 20] (fun u y wr => ∃ (k : Nat) (v : Value), v = u ∧ k ≤ xs.length ∧ y = .int .i64 (k : Int) ∧ Blk wr w.heap.size 88 #[.int .u64 (p : Int)] ∧ wr.ownsRow (w.heap.size + 1) 22 1 v (k + 1) (U64 ((List.range (k + 1)).map (V k))) ∧ Below w.heap.size w wr ∧ w.heap.size + 1 ≤ wr.heap.size) (fun _ y _ => xs.length - (intOf y).toNat)
  case atStart => exact ⟨0, _, rfl, Nat.zero_le _, rfl, kf, hown2, hb0, kf.lt⟩
  case round =>
    clear kf hown2 hb0 hg0
    obtain ⟨k, v, rfl, hk, rfl, kf, hown, hb0, hsz⟩ := hrel
    by_cases hlt : k < xs.length
    · have q1 : (k : Int) < (xs.length : Int) := by omega
      obtain ⟨b, q, rfl, hbl, hc⟩ := lw_get (hrd.below hb0) hlt
      have HVS1 := Lib.hid (HVS.out k)
      have HVZ1 := Lib.hid (HVZ.out k)
      generalize xs.getD k 0 = x at *
      obtain ⟨k1, hk1⟩ : ∃ k1, k1 = k + 1 := ⟨_, rfl⟩
      obtain ⟨n2, hn2'⟩ : ∃ n2, n2 = k + 2 := ⟨_, rfl⟩
      have hcon : U64 ((List.range k1).map (V k)) ++ U64 [0] = U64 ((List.range n2).map (midV (V k) (V k1) k1)) := by
        rw [show n2 = k1 + 1 by omega, List.range_succ (n := k1), List.map_append, ← U64_append, List.map_singleton]
        have e1 : midV (V k) (V k1) k1 k1 = 0 := by unfold midV; rw [if_neg (by omega)]; exact HVO.out k k1 (by omega)
        rw [e1]
        congr 1
        congr 1
        exact List.map_congr_left fun j hj => by
          unfold midV
          rw [if_neg (by have := List.mem_range.1 hj; omega)]
      have HCON := Lib.hid hcon
      have HN2 := Lib.hid (show k1 + 1 = n2 by omega)
      have x1 : (n2 : Int) - 1 = (k1 : Int) := by omega
      have x2 : IntKind.i64.wrap (k1 : Int) = (k1 : Int) := wr_i64 _ (by omega) (by omega)
      rw [← hk1] at hown HVZ1 HVS1
      have HK := Lib.hid (And.intro hn2' hk1)
      have hkb : k1 ≤ 1001 := by omega
      clear hcon hn2' hk1
      go_wp2_with (at_builtin; refine wpl_append rfl _ _ rfl el_w rfl (hown.alloc _) rfl (rd_one _ _ _) (one_U64 [0]) (by omega) (by simp; omega) ?_)
      intro v' wn hown' hgrow hblk
      have hal := (Below.refl wr.heap.size wr).alloc (Nat.le_refl _) (.cells #[.int .u64 ((0 : Nat) : Int)] 22)
      have hvb : ∀ q, v.ownBlock = some q → w.heap.size + 1 ≤ q := fun q e => (hown.lt q e).1
      have hBx := lw_grow (hown.alloc _) hgrow (by simp; omega)
      replace kf := kf.below hal kf.lt
      replace hb0 := below_chain hb0 hal
      replace kf := kf.grown hgrow (fun e => by first | (have := hvb _ e; omega) | (have := hvb _ e.symm; omega))
      replace hb0 := hb0.trans (hBx.mono (by omega))
      have hszn : w.heap.size + 1 ≤ wn.heap.size := Nat.le_trans (Nat.le_trans hsz hal.size) hgrow.size
      replace hown' : wn.ownsRow (w.heap.size + 1) 22 1 v' n2 (U64 ((List.range n2).map (midV (V k) (V k1) k1))) := by
        rw [← HCON.out, ← HN2.out]; exact hown'
      clear hown hgrow hblk hBx hal hvb hsz hc hbl HCON
      obtain ⟨g, cap, rfl, hg1, hg2⟩ := World.ownsRow.form hown' (by have := HN2.out; omega)
      go_wp2_with fail
      go_loopw [8] (fun y wr => ∃ i : Nat, i ≤ k1 ∧ y = .int .i64 (i : Int) ∧ Blk wr w.heap.size 88 #[.int .u64 (p : Int)] ∧ wr.ownsRow (w.heap.size + 1) 22 1 (.slice (some ⟨g, 0, none⟩) n2 cap) n2 (U64 ((List.range n2).map (midV (V k) (V k1) i))) ∧ Below w.heap.size w wr) (fun y _ => (intOf y).toNat)
      case atStart => exact ⟨k1, Nat.le_refl _, rfl, kf, hown', hb0⟩
      case round =>
        clear kf hown' hb0 hszn hg2
        obtain ⟨i, hi, rfl, kf, hown, hb0⟩ := hrel
        rcases Nat.eq_zero_or_pos i with h0 | h0
        · subst h0
          have c0 : wr.cell? ⟨g, 0, none⟩ = some (.int .u64 (V k 0 : Int)) := by rw [hown.cellAt 0 (by have := HK.out; omega), row_get _ (by have := HK.out; omega)]; rfl
          have lg : g < wr.heap.size := World.block_lt_of_cell? _ _ c0
          obtain ⟨y, hy⟩ : ∃ y, y = V k 0 := ⟨_, rfl⟩
          obtain ⟨z, hz⟩ : ∃ z, z = y * x % p := ⟨_, rfl⟩
          obtain ⟨u, hu⟩ : ∃ u, u = negP p z := ⟨_, rfl⟩
          have HY := Lib.hid hy
          rw [← hy] at c0
          have HM1 := Lib.hid (fun w => by have := HM.out y x w; rw [← hz] at this; exact this)
          have HN1 := Lib.hid (fun w => by have := HN.out z w; rw [← hu] at this; exact this)
          have HST := Lib.hid (show (U64 ((List.range n2).map (midV (V k) (V k1) 0))).set 0 (.int .u64 (u : Int)) = U64 ((List.range n2).map (V k1)) by
            rw [row_set]
            refine row_same fun j _ => ?_
            simp only [putF, midV]
            by_cases e : j = 0
            · subst e; rw [if_pos rfl, hu, hz, hy, ← HVZ1.out]
            · rw [if_neg e, if_pos (by omega)])
          have q5 : (0 : Int) < (n2 : Int) := by have := HK.out; omega
          have q6 : 0 < n2 := by have := HK.out; omega
          clear hy hz hu
          have cf := kf.cell
          have lf := kf.lt
          go_upto_region 13 with fail
          refine wpGO_begin (Later) (later_moves) [10] [10] [0, 1, 2, 3, 4, 5, 6, 7, 8, 9, 10] (by kernel_rfl) (by kernel_rfl) ?_
          refine wpGO_start (later_moves) ?_
          intro Wc hacc
          repeat (first | (refine wpGO_skip (later_moves) rfl rfl rfl rfl (fun _ _ _ h => h) ?_ ; simp only [Act.put, List.setIfInBounds_toArray, List.set_cons_zero, List.set_cons_succ]) | (refine wpGO_light (v := ?_) (later_moves) rfl rfl rfl rfl (fun _ _ _ h => h) ?_ ?_ ; rotate_left ; (· (intro w' hR ; (first | have hcells := later_cellsD ((later_moves).trans _ _ _ hacc hR) | skip) ; go_simp ; try with_reducible rfl)) ; simp only [Act.put, List.setIfInBounds_toArray, List.set_cons_zero, List.set_cons_succ]) | (refine wpGO_free (v := ?_) rfl rfl rfl rfl (fun _ _ _ h => h) ?_ ?_ ; rotate_left ; (· (intro w' ; go_simp ; try with_reducible rfl)) ; simp only [Act.put, List.setIfInBounds_toArray, List.set_cons_zero, List.set_cons_succ]))
          refine wpGO_call (later_moves) rfl rfl rfl rfl (fun _ _ _ h => h) (fun _ => by go_simp <;> rfl) (fun w' hR => HM1.out _) ?_
          simp only [Act.put, List.setIfInBounds_toArray, List.set_cons_zero, List.set_cons_succ]
          repeat (first | (refine wpGO_skip (later_moves) rfl rfl rfl rfl (fun _ _ _ h => h) ?_ ; simp only [Act.put, List.setIfInBounds_toArray, List.set_cons_zero, List.set_cons_succ]) | (refine wpGO_light (v := ?_) (later_moves) rfl rfl rfl rfl (fun _ _ _ h => h) ?_ ?_ ; rotate_left ; (· (intro w' hR ; (first | have hcells := later_cellsD ((later_moves).trans _ _ _ hacc hR) | skip) ; go_simp ; try with_reducible rfl)) ; simp only [Act.put, List.setIfInBounds_toArray, List.set_cons_zero, List.set_cons_succ]) | (refine wpGO_free (v := ?_) rfl rfl rfl rfl (fun _ _ _ h => h) ?_ ?_ ; rotate_left ; (· (intro w' ; go_simp ; try with_reducible rfl)) ; simp only [Act.put, List.setIfInBounds_toArray, List.set_cons_zero, List.set_cons_succ]))
          refine wpGO_call (later_moves) rfl rfl rfl rfl (fun _ _ _ h => h) (fun _ => by go_simp <;> rfl) (fun w' hR => HN1.out _) ?_
          simp only [Act.put, List.setIfInBounds_toArray, List.set_cons_zero, List.set_cons_succ]
          repeat (first | (refine wpGO_skip (later_moves) rfl rfl rfl rfl (fun _ _ _ h => h) ?_ ; simp only [Act.put, List.setIfInBounds_toArray, List.set_cons_zero, List.set_cons_succ]) | (refine wpGO_light (v := ?_) (later_moves) rfl rfl rfl rfl (fun _ _ _ h => h) ?_ ?_ ; rotate_left ; (· (intro w' hR ; (first | have hcells := later_cellsD ((later_moves).trans _ _ _ hacc hR) | skip) ; go_simp ; try with_reducible rfl)) ; simp only [Act.put, List.setIfInBounds_toArray, List.set_cons_zero, List.set_cons_succ]) | (refine wpGO_free (v := ?_) rfl rfl rfl rfl (fun _ _ _ h => h) ?_ ?_ ; rotate_left ; (· (intro w' ; go_simp ; try with_reducible rfl)) ; simp only [Act.put, List.setIfInBounds_toArray, List.set_cons_zero, List.set_cons_succ]))
          refine wpGO_heavy rfl rfl rfl rfl ?_
          intro wh hRh
          replace hacc := (later_moves).trans _ _ _ hacc hRh
          have hxd := below_chain (Below.refl wr.heap.size wr).drew hacc
          replace kf := kf.below hxd kf.lt
          replace hown := own_below hown hxd (Nat.le_refl _)
          replace hb0 := below_chain hb0 hxd
          clear hxd hacc hRh cf lf lg c0
          have c2 : wh.cell? ⟨g, 0, none⟩ = some (.int .u64 (y : Int)) := by rw [hown.cellAt 0 (by omega), row_get _ q6, HY.out]; rfl
          have f2 := hown.frozenAt
          go_simp
          refine ⟨fun h => Bool.noConfusion h, ?_⟩
          obtain ⟨hown2, hg⟩ := hown.stored 0 (.int .u64 (u : Int))
          rw [HST.out] at hown2
          replace kf := kf.grown hg (fun e => by have := Option.some.inj e; first | omega | (exact absurd this (by assumption)) | (exact absurd this.symm (by assumption)))
          replace hb0 := hb0.trans (below_of_only hg hb0.size (by omega))
          clear hg f2 c2 hown
          generalize wh.setCell _ _ = we at kf hown2 hb0 ⊢
          refine wpGO_doneP rfl ?_
          go_wp2_with fail
          go_roundw
          case rel => exact ⟨k + 1, _, rfl, by omega, by go_num, kf, by have h := HK.out; rw [h.1, h.2] at hown2; rw [h.1]; exact hown2, hb0, kf.lt⟩
          case measure => simp [intOf]; omega
        · obtain ⟨j, hj⟩ : ∃ j, j = i - 1 := ⟨_, rfl⟩
          have q1 : (0 : Int) < (i : Int) := by omega
          have q2 : (i : Int) - 1 = (j : Int) := by omega
          have q3 : IntKind.i64.wrap (j : Int) = (j : Int) := wr_i64 _ (by omega) (by omega)
          have hin : i < n2 := by have := HK.out; omega
          have hjn : j < n2 := by omega
          have q4 : (i : Int) < (n2 : Int) := by omega
          have q5 : (j : Int) < (n2 : Int) := by omega
          have q6 : (0 : Int) ≤ (i : Int) := by omega
          have q7 : (0 : Int) ≤ (j : Int) := by omega
          have ci : wr.cell? ⟨g, i, none⟩ = some (.int .u64 (V k i : Int)) := by rw [hown.cellAt i (by omega), row_get _ hin]; unfold midV; rw [if_neg (by omega)]
          have cj : wr.cell? ⟨g, j, none⟩ = some (.int .u64 (V k j : Int)) := by rw [hown.cellAt j (by omega), row_get _ hjn]; unfold midV; rw [if_neg (by omega)]
          have lg : g < wr.heap.size := World.block_lt_of_cell? _ _ ci
          obtain ⟨y, hy⟩ : ∃ y, y = V k i := ⟨_, rfl⟩
          obtain ⟨t, ht⟩ : ∃ t, t = V k j := ⟨_, rfl⟩
          obtain ⟨z, hz⟩ : ∃ z, z = y * x % p := ⟨_, rfl⟩
          obtain ⟨u, hu⟩ : ∃ u, u = (t + negP p z) % p := ⟨_, rfl⟩
          have huN : u = V k1 i := by rw [hu, hz, ht, hy, hj]; exact (HVS1.out i h0 (by have := HK.out; omega)).symm
          have HST := Lib.hid (mid_step (n := n2) (V := V k) h0 huN)
          rw [← hj] at HST
          have HY := Lib.hid hy
          rw [← hy] at ci
          rw [← ht] at cj
          have HM1 := Lib.hid (fun w => by have := HM.out y x w; rw [← hz] at this; exact this)
          have HS1 := Lib.hid (fun w => by have := HS.out t z w; rw [← hu] at this; exact this)
          have HJ := Lib.hid hj
          clear hy ht hz hu huN hj
          have cf := kf.cell
          have lf := kf.lt
          go_upto_region 12 with fail
          refine wpGO_begin (Later) (later_moves) [17] [17] [0, 1, 2, 3, 4, 5, 6, 7, 8, 9, 10, 11, 12, 13, 14, 15, 16, 17] (by kernel_rfl) (by kernel_rfl) ?_
          refine wpGO_start (later_moves) ?_
          intro Wc hacc
          repeat (first | (refine wpGO_skip (later_moves) rfl rfl rfl rfl (fun _ _ _ h => h) ?_ ; simp only [Act.put, List.setIfInBounds_toArray, List.set_cons_zero, List.set_cons_succ]) | (refine wpGO_light (v := ?_) (later_moves) rfl rfl rfl rfl (fun _ _ _ h => h) ?_ ?_ ; rotate_left ; (· (intro w' hR ; (first | have hcells := later_cellsD ((later_moves).trans _ _ _ hacc hR) | skip) ; go_simp ; try with_reducible rfl)) ; simp only [Act.put, List.setIfInBounds_toArray, List.set_cons_zero, List.set_cons_succ]) | (refine wpGO_free (v := ?_) rfl rfl rfl rfl (fun _ _ _ h => h) ?_ ?_ ; rotate_left ; (· (intro w' ; go_simp ; try with_reducible rfl)) ; simp only [Act.put, List.setIfInBounds_toArray, List.set_cons_zero, List.set_cons_succ]))
          refine wpGO_call (later_moves) rfl rfl rfl rfl (fun _ _ _ h => h) (fun _ => by go_simp <;> rfl) (fun w' hR => HM1.out _) ?_
          simp only [Act.put, List.setIfInBounds_toArray, List.set_cons_zero, List.set_cons_succ]
          repeat (first | (refine wpGO_skip (later_moves) rfl rfl rfl rfl (fun _ _ _ h => h) ?_ ; simp only [Act.put, List.setIfInBounds_toArray, List.set_cons_zero, List.set_cons_succ]) | (refine wpGO_light (v := ?_) (later_moves) rfl rfl rfl rfl (fun _ _ _ h => h) ?_ ?_ ; rotate_left ; (· (intro w' hR ; (first | have hcells := later_cellsD ((later_moves).trans _ _ _ hacc hR) | skip) ; go_simp ; try with_reducible rfl)) ; simp only [Act.put, List.setIfInBounds_toArray, List.set_cons_zero, List.set_cons_succ]) | (refine wpGO_free (v := ?_) rfl rfl rfl rfl (fun _ _ _ h => h) ?_ ?_ ; rotate_left ; (· (intro w' ; go_simp ; try with_reducible rfl)) ; simp only [Act.put, List.setIfInBounds_toArray, List.set_cons_zero, List.set_cons_succ]))
          refine wpGO_call (later_moves) rfl rfl rfl rfl (fun _ _ _ h => h) (fun _ => by go_simp <;> rfl) (fun w' hR => HS1.out _) ?_
          simp only [Act.put, List.setIfInBounds_toArray, List.set_cons_zero, List.set_cons_succ]
          repeat (first | (refine wpGO_skip (later_moves) rfl rfl rfl rfl (fun _ _ _ h => h) ?_ ; simp only [Act.put, List.setIfInBounds_toArray, List.set_cons_zero, List.set_cons_succ]) | (refine wpGO_light (v := ?_) (later_moves) rfl rfl rfl rfl (fun _ _ _ h => h) ?_ ?_ ; rotate_left ; (· (intro w' hR ; (first | have hcells := later_cellsD ((later_moves).trans _ _ _ hacc hR) | skip) ; go_simp ; try with_reducible rfl)) ; simp only [Act.put, List.setIfInBounds_toArray, List.set_cons_zero, List.set_cons_succ]) | (refine wpGO_free (v := ?_) rfl rfl rfl rfl (fun _ _ _ h => h) ?_ ?_ ; rotate_left ; (· (intro w' ; go_simp ; try with_reducible rfl)) ; simp only [Act.put, List.setIfInBounds_toArray, List.set_cons_zero, List.set_cons_succ]))
          refine wpGO_heavy rfl rfl rfl rfl ?_
          intro wh hRh
          replace hacc := (later_moves).trans _ _ _ hacc hRh
          have hxd := below_chain (Below.refl wr.heap.size wr).drew hacc
          replace kf := kf.below hxd kf.lt
          replace hown := own_below hown hxd (Nat.le_refl _)
          replace hb0 := below_chain hb0 hxd
          clear hxd hacc hRh cf lf lg ci cj
          have c2 : wh.cell? ⟨g, i, none⟩ = some (.int .u64 (y : Int)) := by rw [hown.cellAt i (by omega), row_get _ hin, HY.out]; unfold midV; rw [if_neg (by omega)]
          have f2 := hown.frozenAt
          go_simp
          refine ⟨fun h => Bool.noConfusion h, ?_⟩
          obtain ⟨hown2, hg⟩ := hown.stored i (.int .u64 (u : Int))
          rw [HST.out] at hown2
          replace kf := kf.grown hg (fun e => by have := Option.some.inj e; first | omega | (exact absurd this (by assumption)) | (exact absurd this.symm (by assumption)))
          replace hb0 := hb0.trans (below_of_only hg hb0.size (by omega))
          clear hg f2 c2 hown
          generalize wh.setCell _ _ = we at kf hown2 hb0 ⊢
          refine wpGO_doneP rfl ?_
          go_wp2_with fail
          go_roundw
          case rel => exact ⟨j, by have := HJ.out; omega, rfl, kf, hown2, hb0⟩
          case measure => have := HJ.out; simp [intOf]; omega
    · obtain rfl : k = xs.length := by omega
      have q1 : ¬ ((xs.length : Int) < (xs.length : Int)) := by omega
      have hend : wr.ownsRow w.heap.size 22 1 v n (U64 ((List.range n).map (V xs.length))) := by
        have h := own_base (base' := w.heap.size) hown (by omega)
        rw [HNX.out]
        exact h
      go_wp2
      go_ret
      exact ⟨_, rfl, hend, hb0⟩
end Go.Proofs.Ytefnagiffllhbaa

/- PlD -/
namespace Go.Proofs.Ytefnagiffllhbaa
open Go.RowKit Go.Maps

theorem law_u64 : Keyed Try.prog 22 := int_keyed Try.underlying22
theorem zero_bool (w : World) : (zeroValue 4).run Try.prog w = .ok (.bool false) w := by kernel_rfl
theorem wf_u64 {a : Nat} (h : a < 18446744073709551616) : (Lit.int .u64 (a : Int)).wf = true := by
  simp [Lit.wf, IntKind.min, IntKind.max, IntKind.signed, IntKind.bits]
  omega
theorem plainElem_bool_inv {H : Type} {P : Program} {e : TypeId} (he : P.underlying e = some .bool) {v : Value} {z : DataW H × List MemPlace} (h : plainElem P e v = some z) : ∃ b, v = .bool b ∧ z = (.lit (.bool b), []) := by
  unfold plainElem at h
  rw [he] at h
  cases v <;> simp at h
  subst h
  exact ⟨_, rfl, rfl⟩
/-- A look-up in a set of the call's own. -/
theorem look_bool {H : Type} {P : Program} {k e t : TypeId} {w : World} {b n : Nat} {D : DataW H} (h : w.ownsMap P k (plainElem P e) b n D) (K : Keyed P k) (ht : P.underlying t = some (.map k e)) (he : P.underlying e = some .bool) (hz : (zeroValue e).run P w = .ok (.bool false) w)
    {key : Value} {kl : Lit} (hkey : keyOf P k key = some kl) : ∃ c, (Instr.lookup t (.map (some b)) key false).run P w = .ok (.bool c) w ∧ D.atKey kl (.lit (.bool false)) = .lit (.bool c) := by
  obtain ⟨v, ps, hrun, hv⟩ := h.lookup K ht hz (plainElem_bool he false) hkey
  obtain ⟨c, rfl, hc⟩ := plainElem_bool_inv he hv
  simp only [Prod.mk.injEq] at hc
  exact ⟨c, hrun, hc.1⟩
theorem mk_map (n : Nat) (w : World) : (Instr.makeMap 140 (some (.int .i64 (n : Int)))).run Try.prog w = .ok (.map (some w.heap.size)) (w.alloc (.map #[] 0)) := by
  simp [Instr.makeMap, run_underlying Try.underlying140, asInt, asIntOf]
/-- What the set holds behind k points. -/
def seenR (p : Nat) (xs : List Nat) (k a : Nat) : Bool := (xs.take k).any fun y => y % p == a
theorem seenR_next {p : Nat} {xs : List Nat} {k : Nat} (h : k < xs.length) (a : Nat) : seenR p xs (k + 1) a = (seenR p xs k a || xs.getD k 0 % p == a) := by
  unfold seenR
  rw [lw_snoc xs k h, List.any_append]
  simp
theorem seenR_new {p : Nat} {xs : List Nat} {k : Nat} (hd : ∀ i, i < k → xs.getD i 0 % p ≠ xs.getD k 0 % p) (h : k ≤ xs.length) : seenR p xs k (xs.getD k 0 % p) = false := by
  unfold seenR
  rw [List.any_eq_false]
  intro y hy
  obtain ⟨i, hi, rfl⟩ := List.getElem_of_mem hy
  have hik : i < k := by simp at hi; omega
  have := hd i hik
  rw [List.getD_eq_getElem?_getD, List.getElem?_eq_getElem (by omega)] at this
  simpa using this

set_option maxRecDepth 100000 in
set_option maxHeartbeats 1000000 in
theorem pDifferent_any (p : Nat) (A : Option Addr) (m c : Nat) (xs : List Nat) (w : World) (hp : okP p = true) (hl : RWd w [.slice A m c] xs) (hm : m ≤ 1000) (hd : ∀ i j, i < j → j < xs.length → xs.getD i 0 % p ≠ xs.getD j 0 % p) :
    Calls Try.prog 86 #[fv p, .slice A m c] w fun e w' => e = .returned (.bool true) ∧ Below w.heap.size w w' := by
  obtain ⟨rfl, h1, h2, hlt, hrd⟩ := lw_at hl
  obtain ⟨hp1, hp2⟩ := okP_lt hp
  have HR := Lib.hid (fun a w => fReduce_any p a w hp)
  have HD := Lib.hid hd
  have HP := Lib.hid (And.intro hp1 hp2)
  have mk := mk_map xs.length
  have gm : (xs.length : Int) ≤ 1000 := by omega
  clear hl h1 h2 hlt hp hd hp1 hp2
  unfold fv at *
  have kf := Blk.new w 88 #[.int .u64 (p : Int)]
  have hb0 : Below w.heap.size w (w.alloc (.cells #[.int .u64 (p : Int)] 88)) := (Below.refl _ _).alloc (Nat.le_refl _) _
  go_enter Try.func86, Try.ntmps86
  go_upto_region 1 with fail
  generalize w.alloc _ = w1 at kf hb0 ⊢
  go_upto_region 2 with fail
  have hmap := World.ownsMap_made (H := Unit) w1 Try.prog 22 (plainElem Try.prog 4)
  have hal := (Below.refl w1.heap.size w1).alloc (Nat.le_refl _) (.map #[] 0)
  have hg0 : w.heap.size < w1.heap.size := kf.lt
  replace kf := kf.below hal kf.lt
  replace hb0 := below_chain hb0 hal
  clear hal mk
  generalize w1.alloc _ = w2 at kf hb0 hmap ⊢
  generalize w1.heap.size = g at hmap hg0 ⊢
  go_wp2_with fail
  go_loopw [13] (fun y wr => ∃ (k : Nat) (D : DataW Unit), k ≤ xs.length ∧ y = .int .i64 (k : Int) ∧ Blk wr w.heap.size 88 #[.int .u64 (p : Int)] ∧ wr.ownsMap Try.prog 22 (plainElem Try.prog 4) g k D ∧ Hid (∀ a : Nat, D.atKey (.int .u64 (a : Int)) (.lit (.bool false)) = .lit (.bool (seenR p xs k a))) ∧ Below w.heap.size w wr) (fun y _ => xs.length - (intOf y).toNat)
  case atStart => exact ⟨0, _, Nat.zero_le _, rfl, kf, hmap, Lib.hid (fun a => rfl), hb0⟩
  case round =>
    clear kf hmap hb0
    obtain ⟨k, D, hk, rfl, kf, hmap, HDA, hb0⟩ := hrel
    by_cases hlt : k < xs.length
    · have q1 : (k : Int) < (xs.length : Int) := by omega
      obtain ⟨b, q, rfl, hbl, hc⟩ := lw_get (hrd.below hb0) hlt
      obtain ⟨x, hx⟩ : ∃ x, x = xs.getD k 0 := ⟨_, rfl⟩
      obtain ⟨r, hr⟩ : ∃ r, r = x % p := ⟨_, rfl⟩
      have hseen : seenR p xs k r = false := by rw [hr, hx]; exact seenR_new (fun i hi => HD.out i k hi hlt) hk
      have HNX := Lib.hid (show ∀ a, seenR p xs (k + 1) a = (seenR p xs k a || r == a) from fun a => by rw [hr, hx]; exact seenR_next hlt a)
      have hrl : r < 18446744073709551616 := by
        rw [hr]
        exact Nat.lt_trans (Nat.mod_lt _ (by have := HP.out.1; omega)) HP.out.2
      have hkey : keyOf Try.prog 22 (.int .u64 (r : Int)) = some (.int .u64 (r : Int)) := keyOf_int_mk Try.underlying22 (wf_u64 hrl)
      have HR1 := Lib.hid (fun w => by have := HR.out x w; rw [← hr] at this; exact this)
      rw [← hx] at hc
      have HSE := Lib.hid hseen
      clear hx hr hseen
      have cf := kf.cell
      go_wp2_with fail
      refine (HR1.out _).mono ?_
      rintro e w4 ⟨rfl, hbx⟩
      have hmap4 : w4.ownsMap Try.prog 22 (plainElem Try.prog 4) g k D := by
        obtain ⟨es, clock, hb', F, hs, hD⟩ := hmap
        exact ⟨es, clock, (hbx.block g (World.ownsMap.lt ⟨es, clock, hb', F, hs, hD⟩)).trans hb', F, hs, hD⟩
      replace kf := kf.below hbx kf.lt
      replace hb0 := below_chain hb0 hbx
      clear hbx hmap cf hc
      obtain ⟨cb, hrun, hat⟩ := look_bool hmap4 law_u64 Try.underlying140 Try.underlying4 (zero_bool w4) hkey
      have hcb : cb = false := by
        have h1 := HDA.out r
        rw [HSE.out] at h1
        rw [h1] at hat
        cases cb
        · rfl
        · cases hat
      subst hcb
      clear hat
      go_wp2_with (at_mapUpdate; refine wpList_mapUpdate_own _ rfl _ _ _ 140 rfl 22 4 law_u64 Try.underlying140 _ g k _ rfl hmap4 (by unfold maxLen; omega) _ _ _ rfl rfl hkey _ [] (plainElem_bool Try.underlying4 true) ?_; intro w5 hmap5 hgrow)
      have hD2 : ∀ a : Nat, (D.put (.int .u64 (r : Int)) (.lit (.bool true))).atKey (.int .u64 (a : Int)) (.lit (.bool false)) = .lit (.bool (seenR p xs (k + 1) a)) := fun a => by
        rw [HNX.out]
        by_cases e : a = r
        · subst e
          rw [atKey_put_same hmap4.isMap (by simp [WideAt.IsKeyLit])]
          simp
        · rw [atKey_put_other (by intro h; injection h with _ h; omega), HDA.out]
          have : (r == a) = false := by rw [beq_eq_false_iff_ne]; omega
          rw [this, Bool.or_false]
      have HD2 := Lib.hid hD2
      replace kf := kf.grown hgrow (fun e => by have := Option.some.inj e; omega)
      replace hb0 := hb0.trans (below_of_only hgrow hb0.size (by omega))
      clear hD2 hgrow hmap4 hrun
      go_wp2
      go_roundw
      case rel => exact ⟨k + 1, _, by omega, by go_num, kf, hmap5, HD2, hb0⟩
      case measure => simp [intOf]; omega
    · obtain rfl : k = xs.length := by omega
      have q1 : ¬ ((xs.length : Int) < (xs.length : Int)) := by omega
      go_wp2
      go_ret
      exact ⟨rfl, hb0⟩
end Go.Proofs.Ytefnagiffllhbaa
