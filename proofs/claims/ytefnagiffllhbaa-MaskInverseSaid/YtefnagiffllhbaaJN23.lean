/-
  ref25.Masks: what the document computes for opened values (pure part; the walk is still to be written).
-/
import Derived.Test.YtefnagiffllhbaaJN22
import Derived.Test.YtefnagiffllhbaaJN19
import Derived.Test.YtefnagiffllhbaaJN21
import Derived.Test.YtefnagiffllhbaaJN17

/- PlE -/
namespace Go.Proofs.Ytefnagiffllhbaa
open Go.RowKit

/-- The product of all points; the product without point i; the factor of point i; the sum after i points. -/
def allL (p : Nat) (xs : List Nat) : List Nat := (List.range (xs.length + 1)).map (vanV p xs xs.length)
def othP (p : Nat) (xs : List Nat) (i : Nat) : Nat → Nat := woP p (xs.getD i 0) (allL p xs)
def othL (p : Nat) (xs : List Nat) (i : Nat) : List Nat := (List.range xs.length).map (othP p xs i)
def facP (p : Nat) (xs ys : List Nat) (i : Nat) : Nat := ys.getD i 0 * (hornP p (xs.getD i 0) (othL p xs i) ^ (p - 2) % p) % p
def accI (p : Nat) (xs ys : List Nat) : Nat → Nat → Nat
  | 0 => fun _ => 0
  | i + 1 => fun j => (accI p xs ys i j + facP p xs ys i * othP p xs i j % p) % p
def intP (p : Nat) (xs ys : List Nat) : Nat → Nat := accI p xs ys xs.length
theorem allL_len (p : Nat) (xs : List Nat) : (allL p xs).length = xs.length + 1 := by simp [allL]
theorem upTo_put {n i v : Nat} {F G : Nat → Nat} (h : v = F i) : (fillC n (upTo F G i)).setIfInBounds i (.int .u64 (v : Int)) = fillC n (upTo F G (i + 1)) := upTo_set h

set_option maxRecDepth 100000 in
set_option maxHeartbeats 2000000 in
theorem pInterpolate_any (p : Nat) (A B : Option Addr) (m c n d : Nat) (xs ys : List Nat) (w : World) (hp : okP p = true) (hx : RWd w [.slice A m c] xs) (hy : RWd w [.slice B n d] ys) (hlen : n = m) (hm : m ≤ 1000) (hd : ∀ i j, i < j → j < xs.length → xs.getD i 0 % p ≠ xs.getD j 0 % p) :
    Calls Try.prog 47 #[fv p, .slice A m c, .slice B n d] w fun e w' => ∃ g, e = .returned (.tuple #[.slice (some ⟨g, 0, none⟩) (cutN (intP p xs ys) m) m, .int .i64 0]) ∧ w.heap.size ≤ g ∧ Blk w' g 22 (fillC m (intP p xs ys)) ∧ Below w.heap.size w w' := by
  subst hlen
  obtain ⟨hmx, -, -, -, hrx⟩ := lw_at hx
  obtain ⟨hmy, -, -, -, hry⟩ := lw_at hy
  obtain ⟨hp1, hp2⟩ := okP_lt hp
  have HV := Lib.hid (fun w => fValid_any p w hp)
  have HM := Lib.hid (fun a b w => fMul_any p a b w hp)
  have HA := Lib.hid (fun a b w => fAdd_any p a b w hp)
  have HDv := Lib.hid (fun a b w => fDiv_any p a b w hp)
  have HDi := Lib.hid (fun w' (hb : Below w.heap.size w w') => pDifferent_any p A n c xs w' hp (kept_RWd _ _ _ _ hb hx) hm hd)
  have HVa := Lib.hid (fun w' (hb : Below w.heap.size w w') => pVanishing_any p A n c xs w' hp (kept_RWd _ _ _ _ hb hx) hm)
  have HAL := Lib.hid (show (List.range (n + 1)).map (vanV p xs n) = allL p xs by rw [hmx]; rfl)
  have HAX := Lib.hid (show ∀ x ∈ allL p xs, x < 18446744073709551616 from fun x hx => by
    obtain ⟨i, -, rfl⟩ := List.mem_map.1 hx
    exact Nat.lt_trans (vanV_lt (by omega) _ _ _) hp2)
  have HW := Lib.hid (fun x A c w hl => pWithout_any p x A (n + 1) c (allL p xs) w hp hl (by omega) (by omega))
  have HE := Lib.hid (fun A n c x l w hl => pEval_any p A n c x l w hp hl)
  have HO := Lib.hid (show ∀ i, woP p (xs.getD i 0) (allL p xs) = othP p xs i from fun _ => rfl)
  have HOL := Lib.hid (show ∀ i, (List.range n).map (othP p xs i) = othL p xs i from fun i => by rw [hmx]; rfl)
  have HOX := Lib.hid (show ∀ i k, k < n → othP p xs i k < 18446744073709551616 from fun i k _ => Nat.lt_trans (hornP_lt (by omega) _ _) hp2)
  have HF := Lib.hid (show ∀ i, facP p xs ys i = ys.getD i 0 * (hornP p (xs.getD i 0) (othL p xs i) ^ (p - 2) % p) % p from fun _ => rfl)
  obtain ⟨G, hG⟩ : ∃ G, G = accI p xs ys := ⟨_, rfl⟩
  have HG0 := Lib.hid (show G 0 = fun _ => 0 by rw [hG]; rfl)
  have HGS := Lib.hid (show ∀ i j, G (i + 1) j = (G i j + facP p xs ys i * othP p xs i j % p) % p from fun i j => by rw [hG]; rfl)
  rw [show intP p xs ys = G n by rw [hG, hmx]; rfl]
  have mk := mk_words n (by omega)
  have gn : (n : Int) ≤ 1000 := by omega
  have gn0 : (0 : Int) ≤ (n : Int) := by omega
  have HMX := Lib.hid hmx
  have HMY := Lib.hid hmy
  clear hG hp hx hy hd hp1 hp2 hmx hmy
  unfold fv at *
  have kf := Blk.new w 88 #[.int .u64 (p : Int)]
  have hb0 : Below w.heap.size w (w.alloc (.cells #[.int .u64 (p : Int)] 88)) := (Below.refl _ _).alloc (Nat.le_refl _) _
  go_enter Try.func47, Try.ntmps47
  go_wp2_with fail
  generalize w.alloc _ = w1 at kf hb0 ⊢
  refine (HV.out _).mono ?_
  rintro e w2 ⟨rfl, hbx⟩
  replace kf := kf.below hbx kf.lt
  replace hb0 := below_chain hb0 hbx
  clear hbx
  have cf := kf.cell
  go_wp2_with fail
  refine (HDi.out _ hb0).mono ?_
  rintro e w3 ⟨rfl, hbx⟩
  replace kf := kf.below hbx kf.lt
  replace hb0 := below_chain hb0 hbx
  clear hbx cf
  have cf := kf.cell
  go_wp2_with fail
  refine (HVa.out _ hb0).mono ?_
  rintro e w4 ⟨vP, rfl, hP, hbx⟩
  replace kf := kf.below hbx kf.lt
  replace hb0 := below_chain hb0 hbx
  clear hbx cf
  rw [HAL.out] at hP
  obtain ⟨AP, cP, rfl, -⟩ := own_form hP
  replace hP := lw_own hP HAX.out
  go_wp2_with fail
  have kg := Blk.new w4 22 (fillC n fun _ => 0)
  have hbB := (Below.refl w4.heap.size w4).alloc (Nat.le_refl _) (.cells (fillC n fun _ => 0) 22)
  generalize w4.alloc _ = w5 at kg hbB ⊢
  clear mk HDi HVa HAL HAX HV
  go_loopw [38] (fun y wr => ∃ i : Nat, i ≤ n ∧ y = .int .i64 (i : Int) ∧ Blk wr w4.heap.size 22 (fillC n (G i)) ∧ Below w4.heap.size w4 wr) (fun y _ => n - (intOf y).toNat)
  case atStart => exact ⟨0, Nat.zero_le _, rfl, by rw [HG0.out]; exact kg, hbB⟩
  case round =>
    clear kg hbB
    obtain ⟨i, hi, rfl, kg, hbB⟩ := hrel
    by_cases hlt : i < n
    · have q1 : (i : Int) < (n : Int) := by omega
      have q2 : (0 : Int) ≤ (i : Int) := by omega
      have hb := below_chain hb0 hbB
      have hrx' : Rd w 1 A xs.length (U64 xs) := by rw [← HMX.out]; exact hrx
      have hry' : Rd w 1 B ys.length (U64 ys) := by rw [← HMY.out]; exact hry
      obtain ⟨b1, q1', rfl, hbl1, hc1⟩ := lw_get hrx' (j := i) (by rw [← HMX.out]; exact hlt)
      obtain ⟨b2, q2', rfl, hbl2, hc2⟩ := lw_get hry' (j := i) (by rw [← HMY.out]; exact hlt)
      have c1 := (hb.cell (p := ⟨b1, q1' + i, none⟩) hbl1).trans hc1
      have c2 := (hb.cell (p := ⟨b2, q2' + i, none⟩) hbl2).trans hc2
      clear hrx' hry' hc1 hc2
      have HO1 := Lib.hid (HO.out i)
      have HOL1 := Lib.hid (HOL.out i)
      have HOX1 := Lib.hid (HOX.out i)
      have HF1 := Lib.hid (HF.out i)
      have HGS1 := Lib.hid (HGS.out i)
      obtain ⟨x, hx⟩ : ∃ x, x = xs.getD i 0 := ⟨_, rfl⟩
      obtain ⟨y, hy⟩ : ∃ y, y = ys.getD i 0 := ⟨_, rfl⟩
      obtain ⟨O, hO⟩ : ∃ O, O = othP p xs i := ⟨_, rfl⟩
      obtain ⟨ol, hol⟩ : ∃ ol, ol = othL p xs i := ⟨_, rfl⟩
      obtain ⟨fc, hfc⟩ : ∃ fc, fc = facP p xs ys i := ⟨_, rfl⟩
      rw [← hx] at c1 HO1 HF1
      rw [← hy] at c2 HF1
      rw [← hO] at HO1 HOL1 HOX1 HGS1
      rw [← hol] at HOL1 HF1
      rw [← hfc] at HF1 HGS1
      obtain ⟨z, hz⟩ : ∃ z, z = hornP p x ol := ⟨_, rfl⟩
      rw [← hz] at HF1
      have HW1 := Lib.hid (fun A c w hl => by have := HW.out x A c w hl; rw [HO1.out, Nat.add_sub_cancel] at this; exact this)
      have HE1 := Lib.hid (fun A n c w hl => by have := HE.out A n c x ol w hl; rw [← hz] at this; exact this)
      have HD1 := Lib.hid (fun w => by have := HDv.out y z w; rw [← HF1.out] at this; exact this)
      clear hx hy hO hol hfc hz HO1 HF1
      have kf1 := kf.below hbB kf.lt
      have cf := kf1.cell
      have lf := kf1.lt
      have hP1 := kept_RWd _ _ _ _ hbB hP
      have lb2 : b2 < wr.heap.size := World.block_lt_of_cell? _ _ c2
      go_upto_region 10 with fail
      go_wp2_with fail
      refine (HW1.out _ _ _ hP1).mono ?_
      rintro e w6 ⟨go, rfl, hgo, ko, hbx⟩
      have hgo1 : w4.heap.size < go := by have := kg.lt; omega
      replace c2 := (hbx.cell (p := ⟨b2, q2' + i, none⟩) lb2).trans c2
      replace lb2 := Nat.lt_of_lt_of_le lb2 hbx.size
      replace kg := kg.below hbx kg.lt
      replace kf1 := kf1.below hbx kf1.lt
      replace hbB := below_chain hbB hbx
      clear hbx hP1 cf lf c1 hgo
      have hol := fill_rwd ko (fun k hk => HOX1.out k hk) (by simp [maxLen]; omega)
      rw [HOL1.out] at hol
      have cf := kf1.cell
      have lf := kf1.lt
      go_upto_region 11 with fail
      refine wpO_begin (Later) [8, 9] [0, 1, 2, 3, 4, 5, 6, 7, 8, 9, 10] (by kernel_rfl) (by kernel_rfl) ?_
      refine wpO_startK (later_moves) ?_
      intro Wc HWc hacc
      have hbW : Below w6.heap.size w6 Wc := by rw [HWc.out]; exact (Below.refl _ _).drew
      replace hbB := below_chain hbB hbW
      replace hol := kept_RWd _ _ _ _ hbW hol
      repeat (first | (refine wpO_skip (later_moves) rfl rfl (fun _ _ _ h => h) ?_ ; simp only [Act.put, List.setIfInBounds_toArray, List.set_cons_zero, List.set_cons_succ]) | (refine wpO_light (v := ?_) (later_moves) rfl rfl (fun _ _ _ h => h) ?_ ?_ ; rotate_left ; (· (intro w' hR ; (first | have hcells := later_cellsD ((later_moves).trans _ _ _ hacc hR) | skip) ; go_simp ; try with_reducible rfl)) ; simp only [Act.put, List.setIfInBounds_toArray, List.set_cons_zero, List.set_cons_succ]))
      refine wpO_call (later_moves) rfl rfl rfl (fun _ => by go_simp <;> rfl) ((HE1.out _ _ _ _ hol).mono ?_)
      rintro e w7 ⟨rfl, hb7⟩
      refine ⟨_, rfl, hb7, ?_⟩
      replace hacc := (later_moves).trans _ _ _ hacc (hb7)
      simp only [Act.put, List.setIfInBounds_toArray, List.set_cons_zero, List.set_cons_succ]
      repeat (first | (refine wpO_skip (later_moves) rfl rfl (fun _ _ _ h => h) ?_ ; simp only [Act.put, List.setIfInBounds_toArray, List.set_cons_zero, List.set_cons_succ]) | (refine wpO_light (v := ?_) (later_moves) rfl rfl (fun _ _ _ h => h) ?_ ?_ ; rotate_left ; (· (intro w' hR ; (first | have hcells := later_cellsD ((later_moves).trans _ _ _ hacc hR) | skip) ; go_simp ; try with_reducible rfl)) ; simp only [Act.put, List.setIfInBounds_toArray, List.set_cons_zero, List.set_cons_succ]))
      refine wpO_call (later_moves) rfl rfl rfl (fun _ => by go_simp <;> rfl) ((HD1.out _).mono ?_)
      rintro e w8 ⟨rfl, hb8⟩
      refine ⟨_, rfl, hb8, ?_⟩
      replace hacc := (later_moves).trans _ _ _ hacc (hb8)
      simp only [Act.put, List.setIfInBounds_toArray, List.set_cons_zero, List.set_cons_succ]
      repeat (first | (refine wpO_skip (later_moves) rfl rfl (fun _ _ _ h => h) ?_ ; simp only [Act.put, List.setIfInBounds_toArray, List.set_cons_zero, List.set_cons_succ]) | (refine wpO_light (v := ?_) (later_moves) rfl rfl (fun _ _ _ h => h) ?_ ?_ ; rotate_left ; (· (intro w' hR ; (first | have hcells := later_cellsD ((later_moves).trans _ _ _ hacc hR) | skip) ; go_simp ; try with_reducible rfl)) ; simp only [Act.put, List.setIfInBounds_toArray, List.set_cons_zero, List.set_cons_succ]))
      refine wpO_done ?_
      have hb9 := below_chain (below_chain hbW hb7) hb8
      have hbb := below_chain hb7 hb8
      replace kg := kg.below hb9 kg.lt
      replace kf1 := kf1.below hb9 kf1.lt
      replace ko := ko.below hb9 ko.lt
      replace hbB := below_chain hbB hbb
      clear hb9 hbb hbW hb7 hb8 hacc HWc cf lf c2 lb2 hol HE1 HD1 HW1 hbl1 hbl2
      have H0 := Lib.hid (upTo_zero n (G (i + 1)) (G i))
      have HGA := Lib.hid (upTo_all n (G (i + 1)) (G i))
      obtain ⟨G1, hG1⟩ : ∃ G1, G1 = G (i + 1) := ⟨_, rfl⟩
      obtain ⟨G0, hG0⟩ : ∃ G0, G0 = G i := ⟨_, rfl⟩
      rw [← hG1, ← hG0] at H0 HGA
      rw [← hG0] at kg
      have HGS2 := Lib.hid (show ∀ j, G1 j = (G0 j + fc * O j % p) % p from fun j => by rw [hG1, hG0]; exact HGS1.out j)
      have HG1 := Lib.hid hG1
      clear hG1 hG0 HGS1
      go_wp2_with fail
      go_loopw [59] (fun y wr => ∃ j : Nat, j ≤ n ∧ y = .int .i64 (j : Int) ∧ Blk wr w.heap.size 88 #[.int .u64 (p : Int)] ∧ Blk wr w4.heap.size 22 (fillC n (upTo G1 G0 j)) ∧ Blk wr go 22 (fillC n O) ∧ Below w4.heap.size w4 wr) (fun y _ => n - (intOf y).toNat)
      case atStart => exact ⟨0, Nat.zero_le _, rfl, kf1, by rw [H0.out]; exact kg, ko, hbB⟩
      case round =>
        clear kg kf1 ko hbB
        obtain ⟨j, hj, rfl, kf1, kg, ko, hbB⟩ := hrel
        by_cases hltj : j < n
        · have q3 : (j : Int) < (n : Int) := by omega
          have q4 : (0 : Int) ≤ (j : Int) := by omega
          have co := ko.cell j
          rw [fill_get _ hltj] at co
          have cg := kg.cell j
          rw [upTo_get _ _ hltj] at cg
          obtain ⟨u, hu⟩ : ∃ u, u = O j := ⟨_, rfl⟩
          obtain ⟨t, ht⟩ : ∃ t, t = G0 j := ⟨_, rfl⟩
          obtain ⟨v1, hv1⟩ : ∃ v1, v1 = fc * u % p := ⟨_, rfl⟩
          obtain ⟨v2, hv2⟩ : ∃ v2, v2 = (t + v1) % p := ⟨_, rfl⟩
          have hvv : v2 = G1 j := by rw [HGS2.out, hv2, hv1, ht, hu]
          have HST := Lib.hid (upTo_set (n := n) (G := G0) hvv)
          have HT := Lib.hid ht
          rw [← hu] at co
          rw [← ht] at cg
          have HM1 := Lib.hid (fun w => by have := HM.out fc u w; rw [← hv1] at this; exact this)
          have HA1 := Lib.hid (fun w => by have := HA.out t v1 w; rw [← hv2] at this; exact this)
          clear hu ht hv1 hv2 hvv
          have cf := kf1.cell
          have lf := kf1.lt
          have lg := kg.lt
          have lo := ko.lt
          go_upto_region 15 with fail
          refine wpGO_begin (Later) (later_moves) [13] [13] [0, 1, 2, 3, 4, 5, 6, 7, 8, 9, 10, 11, 12, 13] (by kernel_rfl) (by kernel_rfl) ?_
          refine wpGO_start (later_moves) ?_
          intro Wc hacc
          repeat (first | (refine wpGO_skip (later_moves) rfl rfl rfl rfl (fun _ _ _ h => h) ?_ ; simp only [Act.put, List.setIfInBounds_toArray, List.set_cons_zero, List.set_cons_succ]) | (refine wpGO_light (v := ?_) (later_moves) rfl rfl rfl rfl (fun _ _ _ h => h) ?_ ?_ ; rotate_left ; (· (intro w' hR ; (first | have hcells := later_cellsD ((later_moves).trans _ _ _ hacc hR) | skip) ; go_simp ; try with_reducible rfl)) ; simp only [Act.put, List.setIfInBounds_toArray, List.set_cons_zero, List.set_cons_succ]) | (refine wpGO_free (v := ?_) rfl rfl rfl rfl (fun _ _ _ h => h) ?_ ?_ ; rotate_left ; (· (intro w' ; go_simp ; try with_reducible rfl)) ; simp only [Act.put, List.setIfInBounds_toArray, List.set_cons_zero, List.set_cons_succ]))
          refine wpGO_call (later_moves) rfl rfl rfl rfl (fun _ _ _ h => h) (fun _ => by go_simp <;> rfl) (fun w' hR => HM1.out _) ?_
          simp only [Act.put, List.setIfInBounds_toArray, List.set_cons_zero, List.set_cons_succ]
          repeat (first | (refine wpGO_skip (later_moves) rfl rfl rfl rfl (fun _ _ _ h => h) ?_ ; simp only [Act.put, List.setIfInBounds_toArray, List.set_cons_zero, List.set_cons_succ]) | (refine wpGO_light (v := ?_) (later_moves) rfl rfl rfl rfl (fun _ _ _ h => h) ?_ ?_ ; rotate_left ; (· (intro w' hR ; (first | have hcells := later_cellsD ((later_moves).trans _ _ _ hacc hR) | skip) ; go_simp ; try with_reducible rfl)) ; simp only [Act.put, List.setIfInBounds_toArray, List.set_cons_zero, List.set_cons_succ]) | (refine wpGO_free (v := ?_) rfl rfl rfl rfl (fun _ _ _ h => h) ?_ ?_ ; rotate_left ; (· (intro w' ; go_simp ; try with_reducible rfl)) ; simp only [Act.put, List.setIfInBounds_toArray, List.set_cons_zero, List.set_cons_succ]))
          refine wpGO_call (later_moves) rfl rfl rfl rfl (fun _ _ _ h => h) (fun _ => by go_simp <;> rfl) (fun w' hR => HA1.out _) ?_
          simp only [Act.put, List.setIfInBounds_toArray, List.set_cons_zero, List.set_cons_succ]
          repeat (first | (refine wpGO_skip (later_moves) rfl rfl rfl rfl (fun _ _ _ h => h) ?_ ; simp only [Act.put, List.setIfInBounds_toArray, List.set_cons_zero, List.set_cons_succ]) | (refine wpGO_light (v := ?_) (later_moves) rfl rfl rfl rfl (fun _ _ _ h => h) ?_ ?_ ; rotate_left ; (· (intro w' hR ; (first | have hcells := later_cellsD ((later_moves).trans _ _ _ hacc hR) | skip) ; go_simp ; try with_reducible rfl)) ; simp only [Act.put, List.setIfInBounds_toArray, List.set_cons_zero, List.set_cons_succ]) | (refine wpGO_free (v := ?_) rfl rfl rfl rfl (fun _ _ _ h => h) ?_ ?_ ; rotate_left ; (· (intro w' ; go_simp ; try with_reducible rfl)) ; simp only [Act.put, List.setIfInBounds_toArray, List.set_cons_zero, List.set_cons_succ]))
          refine wpGO_heavy rfl rfl rfl rfl ?_
          intro wh hRh
          replace hacc := (later_moves).trans _ _ _ hacc hRh
          have hxd := below_chain (Below.refl wr.heap.size wr).drew hacc
          replace kf1 := kf1.below hxd kf1.lt
          replace kg := kg.below hxd kg.lt
          replace ko := ko.below hxd ko.lt
          replace hbB := below_chain hbB hxd
          clear hxd hacc hRh cf lf lg lo cg co
          have c2 := kg.cell j
          rw [upTo_get _ _ hltj, ← HT.out] at c2
          have f2 := kg.frozen
          go_simp
          refine ⟨fun h => Bool.noConfusion h, ?_⟩
          have hg := set_only (w := wh) w4.heap.size j (.int .u64 (v2 : Int))
          have hwf : w.heap.size < w4.heap.size := kf.lt
          replace kg := kg.set_ j (.int .u64 (v2 : Int))
          rw [HST.out] at kg
          replace kf1 := kf1.grown hg (fun e => by have := Option.some.inj e; omega)
          replace ko := ko.grown hg (fun e => by have := Option.some.inj e; omega)
          replace hbB := hbB.trans (below_of_only hg hbB.size (Nat.le_refl _))
          clear hg f2 c2 hwf
          generalize wh.setCell _ _ = we at kg kf1 ko hbB ⊢
          refine wpGO_doneP rfl ?_
          go_wp2_with fail
          go_roundw
          case rel => exact ⟨j + 1, by omega, by go_num, kf1, kg, ko, hbB⟩
          case measure => simp [intOf]; omega
        · obtain rfl : j = n := by omega
          have q3 : ¬ ((j : Int) < (j : Int)) := by omega
          rw [HGA.out, HG1.out] at kg
          clear ko kf1
          go_wp2_with fail
          go_roundw
          case rel => exact ⟨i + 1, by omega, by go_num, kg, hbB⟩
          case measure => simp [intOf]; omega
    · obtain rfl : i = n := by omega
      have q1 : ¬ ((i : Int) < (i : Int)) := by omega
      go_wp2_with fail
      refine (pShorten_any w4.heap.size i i (G i) _ kg (by omega) (Nat.le_refl _)).mono ?_
      rintro e w9 ⟨rfl, hbx⟩
      replace kg := kg.below hbx kg.lt
      replace hbB := below_chain hbB hbx
      have hs := hb0.size
      go_wp2
      go_ret2
      exact ⟨_, rfl, hs, kg, below_chain hb0 hbB⟩
end Go.Proofs.Ytefnagiffllhbaa

/- PlF -/
namespace Go.Proofs.Ytefnagiffllhbaa
open Go.RowKit

/-- ref03.Vanishing, after k points. -/
def vanR (p : Nat) (xs : List Nat) : Nat → List Nat
  | 0 => trimP p [1]
  | k + 1 => mulP p [negP p (xs.getD k 0), 1 % p] (vanR p xs k)
def vanL (p : Nat) (xs : List Nat) : List Nat := vanR p xs xs.length
theorem vanR_len (p : Nat) (xs : List Nat) : ∀ k, (vanR p xs k).length ≤ k + 1
  | 0 => by
    have := trimP_len p [1]
    simpa [vanR] using this
  | k + 1 => by
    have h1 := mulP_len p [negP p (xs.getD k 0), 1 % p] (vanR p xs k)
    have h2 := vanR_len p xs k
    have h0 : ([negP p (xs.getD k 0), 1 % p] : List Nat).length = 2 := rfl
    rw [h0] at h1
    rw [vanR]
    omega
def otherL (xs : List Nat) (i : Nat) : List Nat := xs.take i ++ xs.drop (i + 1)
def lagC (p : Nat) (xs ys : List Nat) (i : Nat) : Nat := ys.getD i 0 * (evalP p (vanL p (otherL xs i)) (xs.getD i 0) ^ (p - 2) % p) % p
/-- ref03.Interpolate, after i points. -/
def lagR (p : Nat) (xs ys : List Nat) : Nat → List Nat
  | 0 => []
  | i + 1 => addP p (lagR p xs ys i) (scaleP p (vanL p (otherL xs i)) (lagC p xs ys i))
def lagL (p : Nat) (xs ys : List Nat) : List Nat := lagR p xs ys xs.length
theorem otherL_len {xs : List Nat} {i : Nat} (h : i < xs.length) : (otherL xs i).length = xs.length - 1 := by
  simp [otherL]
  omega
theorem lagR_len (p : Nat) (xs ys : List Nat) : ∀ i, i ≤ xs.length → (lagR p xs ys i).length ≤ xs.length
  | 0, _ => Nat.zero_le _
  | i + 1, h => by
    have h1 := addP_len p (lagR p xs ys i) (scaleP p (vanL p (otherL xs i)) (lagC p xs ys i))
    have h2 := lagR_len p xs ys i (by omega)
    have h3 := scaleP_len p (vanL p (otherL xs i)) (lagC p xs ys i)
    have h4 := vanR_len p (otherL xs i) (otherL xs i).length
    have h5 := otherL_len (xs := xs) (i := i) (by omega)
    rw [lagR]
    unfold vanL at *
    omega

end Go.Proofs.Ytefnagiffllhbaa

/- PlG -/
namespace Go.Proofs.Ytefnagiffllhbaa

/-- The product of x - x_j for the first k points. -/
def prodX (xs : List Nat) (x : Int) : Nat → Int
  | 0 => 1
  | k + 1 => prodX xs x k * (x - cfI xs k)
theorem vanV_ev {p : Nat} (hp : 1 < p) (xs : List Nat) (x : Int) : ∀ k, Cg p (evI (fun i => (vanV p xs k i : Int)) x (k + 1)) (prodX xs x k)
  | 0 => Cg.of_eq (by simp [evI, vanV, prodX])
  | k + 1 => by
    have ih := vanV_ev hp xs x k
    have h0 : vanV p xs k (k + 1) = 0 := vanV_out p xs k (k + 1) (by omega)
    have e1 : evI (fun i => (vanV p xs k i : Int)) x (k + 1) = (vanV p xs k 0 : Int) + x * evI (fun i => (vanV p xs k (i + 1) : Int)) x (k + 1) := by
      have h1 := evI_shift (fun i => (vanV p xs k i : Int)) x (k + 1)
      rw [evI, h0] at h1
      rw [← h1]
      simp
    rw [evI_shift]
    have c0 : Cg p (vanV p xs (k + 1) 0 : Int) (-((vanV p xs k 0 : Int) * cfI xs k)) := by
      show Cg p (negP p (vanV p xs k 0 * xs.getD k 0 % p) : Int) _
      refine (negP_cg p _ (by omega)).trans (Cg.neg ((Cg.mod _).trans (Cg.of_eq (Int.natCast_mul _ _))))
    have c1 : Cg p (evI (fun i => (vanV p xs (k + 1) (i + 1) : Int)) x (k + 1)) (evI (fun i => (vanV p xs k i : Int) + (-cfI xs k) * (vanV p xs k (i + 1) : Int)) x (k + 1)) := by
      refine evI_cgn x _ fun i hi => ?_
      have e : vanV p xs (k + 1) (i + 1) = (vanV p xs k i + negP p (vanV p xs k (i + 1) * xs.getD k 0 % p)) % p := by
        rw [vanV]
        simp only []
        rw [if_neg (by omega), if_pos (by omega), Nat.add_sub_cancel]
      rw [e]
      refine (Cg.mod _).trans (Cg.trans (Cg.of_eq (Int.natCast_add _ _)) (Cg.rfl'.add ?_))
      refine (negP_cg p _ (by omega)).trans ((Cg.neg ((Cg.mod _).trans (Cg.of_eq (Int.natCast_mul _ _)))).trans (Cg.of_eq ?_))
      show -((vanV p xs k (i + 1) : Int) * cfI xs k) = _
      rw [Int.neg_mul, Int.mul_comm]
    rw [evI_add, evI_mul] at c1
    refine (c0.add (Cg.rfl'.mul c1)).trans ?_
    rw [prodX]
    refine Cg.trans (Cg.of_eq ?_) (ih.mul Cg.rfl')
    rw [e1]
    grind
theorem prodX_zero (xs : List Nat) (k : Nat) : ∀ m, k < m → prodX xs (cfI xs k) m = 0
  | 0, h => by omega
  | m + 1, h => by
    rw [prodX]
    by_cases e : k = m
    · subst e; rw [Int.sub_self, Int.mul_zero]
    · rw [prodX_zero xs k m (by omega), Int.zero_mul]
theorem prodX_ne {p : Nat} (h : okP p = true) (xs : List Nat) (x : Int) : ∀ m, (∀ k, k < m → ¬ Cg p x (cfI xs k)) → ¬ Cg p (prodX xs x m) 0
  | 0, _ => fun hc => one_ne h hc.symm
  | m + 1, hx => fun hc => by
    rw [prodX] at hc
    rcases mul_zero_cg h hc with h1 | h1
    · exact prodX_ne h xs x m (fun k hk => hx k (by omega)) h1
    · exact hx m (by omega) (by obtain ⟨c, hc⟩ := h1; exact ⟨c, by rw [← hc]; omega⟩)

/-- The document's product has this value, too. -/
theorem vanR_ev {p : Nat} (h : okP p = true) (xs : List Nat) (x : Int) : ∀ k, Cg p (evL (vanR p xs k) x) (prodX xs x k)
  | 0 => by
    rw [vanR, prodX]
    exact (ev_trimP _ _).trans (Cg.of_eq (by simp [evL, evI, cfI]))
  | k + 1 => by
    have hp := okP_lt h
    rw [vanR, prodX]
    refine (ev_mulP _ _ x).trans ?_
    rw [Int.mul_comm]
    refine (vanR_ev h xs x k).mul ?_
    have e : evL [negP p (xs.getD k 0), 1 % p] x = (negP p (xs.getD k 0) : Int) + ((1 % p : Nat) : Int) * x := by
      simp [evL, evI, cfI, List.getD, Int.pow_succ]
    rw [e, Nat.mod_eq_of_lt (by omega)]
    refine ((negP_cg p _ (by omega)).add (Cg.rfl' (x := ((1 : Nat) : Int) * x))).trans (Cg.of_eq ?_)
    show -(cfI xs k) + ((1 : Nat) : Int) * x = x - cfI xs k
    omega
/-- The points are different. -/
def DiffX (p : Nat) (xs : List Nat) : Prop := ∀ i j, i < xs.length → j < xs.length → i ≠ j → ¬ Cg p (cfI xs i) (cfI xs j)
theorem diffX_of {p : Nat} {xs : List Nat} (hp : 0 < p) (hd : ∀ i j, i < j → j < xs.length → xs.getD i 0 % p ≠ xs.getD j 0 % p) : DiffX p xs := by
  have key : ∀ i j, i < j → j < xs.length → ¬ Cg p (cfI xs i) (cfI xs j) := fun i j h1 h2 hc => by
    have h3 : Cg p ((xs.getD i 0 % p : Nat) : Int) ((xs.getD j 0 % p : Nat) : Int) := (Cg.mod _).trans (hc.trans (Cg.mod _).symm)
    exact hd i j h1 h2 (Cg.eq h3 (Nat.mod_lt _ hp) (Nat.mod_lt _ hp))
  intro i j h1 h2 hne hc
  rcases Nat.lt_or_gt_of_ne hne with h | h
  · exact key i j h h2 hc
  · exact key j i h h1 hc.symm
theorem otherL_get {xs : List Nat} {i : Nat} (hi : i < xs.length) (k : Nat) : (otherL xs i).getD k 0 = if k < i then xs.getD k 0 else xs.getD (k + 1) 0 := by
  unfold otherL
  rw [List.getD_eq_getElem?_getD, List.getD_eq_getElem?_getD, List.getD_eq_getElem?_getD]
  split
  · rename_i h
    rw [List.getElem?_append_left (by simp; omega), List.getElem?_take, if_pos h]
  · rename_i h
    rw [List.getElem?_append_right (by simp; omega), List.getElem?_drop]
    congr 2
    simp
    omega
/-- The document's Lagrange polynomial: zero at the other points, and not zero at its own. -/
theorem vanL_other {p : Nat} (h : okP p = true) {xs : List Nat} {i k : Nat} (hi : i < xs.length) (hk : k < xs.length) (hne : k ≠ i) : Cg p (evL (vanL p (otherL xs i)) (cfI xs k)) 0 := by
  refine (vanR_ev h (otherL xs i) (cfI xs k) _).trans (Cg.of_eq ?_)
  obtain ⟨j, hj, e⟩ : ∃ j, j < (otherL xs i).length ∧ cfI (otherL xs i) j = cfI xs k := by
    rw [otherL_len hi]
    rcases Nat.lt_or_gt_of_ne hne with h1 | h1
    · exact ⟨k, by omega, by unfold cfI; rw [otherL_get hi, if_pos h1]⟩
    · exact ⟨k - 1, by omega, by unfold cfI; rw [otherL_get hi, if_neg (by omega), show k - 1 + 1 = k by omega]⟩
  rw [← e]
  exact prodX_zero _ j _ hj
theorem vanL_own {p : Nat} (h : okP p = true) {xs : List Nat} {i : Nat} (hi : i < xs.length) (hd : DiffX p xs) : ¬ Cg p (evL (vanL p (otherL xs i)) (cfI xs i)) 0 := fun hc => by
  refine prodX_ne h (otherL xs i) (cfI xs i) (otherL xs i).length (fun k hk => ?_) ((vanR_ev h (otherL xs i) (cfI xs i) _).symm.trans hc)
  rw [otherL_len hi] at hk
  unfold cfI
  rw [otherL_get hi]
  split
  · exact hd i k hi (by omega) (by omega)
  · exact hd i (k + 1) hi (by omega) (by omega)
theorem lagR_ev {p : Nat} (xs ys : List Nat) (x : Int) : ∀ m, Cg p (evL (lagR p xs ys m) x) (sumI (fun i => (lagC p xs ys i : Int) * evL (vanL p (otherL xs i)) x) m)
  | 0 => Cg.of_eq rfl
  | m + 1 => by
    rw [lagR, sumI]
    exact (ev_addP _ _ x).trans ((lagR_ev xs ys x m).add (ev_scaleP _ _ x))
/-- The document's interpolation takes the given values. -/
theorem lagL_val {p : Nat} (h : okP p = true) {xs ys : List Nat} (hd : DiffX p xs) {k : Nat} (hk : k < xs.length) : Cg p (evL (lagL p xs ys) (cfI xs k)) (cfI ys k) := by
  refine (lagR_ev xs ys _ _).trans (sumI_one hk (fun i hi hne => ?_) ?_)
  · exact (Cg.rfl'.mul (vanL_other h hi hk (fun e => hne e.symm))).trans (Cg.of_eq (Int.mul_zero _))
  · have hb : Cg p (evalP p (vanL p (otherL xs k)) (xs.getD k 0) : Int) (evL (vanL p (otherL xs k)) (cfI xs k)) := evalP_ev _
    have hn := inv_any h (a := evalP p (vanL p (otherL xs k)) (xs.getD k 0)) fun e => vanL_own h hk hd (hb.symm.trans e)
    have hc : Cg p (lagC p xs ys k : Int) (cfI ys k * ((evalP p (vanL p (otherL xs k)) (xs.getD k 0) ^ (p - 2) % p : Nat) : Int)) := (Cg.mod _).trans (Cg.of_eq (Int.natCast_mul _ _))
    refine (hc.mul hb.symm).trans ?_
    rw [Int.mul_assoc]
    refine (Cg.rfl'.mul (Cg.trans (Cg.of_eq (Int.mul_comm _ _)) hn)).trans (Cg.of_eq (Int.mul_one _))
end Go.Proofs.Ytefnagiffllhbaa

/- PlH -/
namespace Go.Proofs.Ytefnagiffllhbaa

theorem cfI_all {p : Nat} (xs : List Nat) {i : Nat} (h : i < xs.length + 1) : cfI (allL p xs) i = (vanV p xs xs.length i : Int) := by
  unfold cfI allL
  rw [range_get, if_pos h]
theorem allL_ev {p : Nat} (hp : 1 < p) (xs : List Nat) (x : Int) : Cg p (evI (cfI (allL p xs)) x (xs.length + 1)) (prodX xs x xs.length) := by
  rw [evI_same (b := fun i => (vanV p xs xs.length i : Int)) x _ fun i hi => cfI_all xs hi]
  exact vanV_ev hp xs x _
theorem woP_quo {p r : Nat} (P : List Nat) (i : Nat) : Cg p (woP p r P i : Int) (quoI (cfI P) (r : Int) P.length (i + 1)) := by
  unfold woP quoI
  refine (hornP_cg _).trans (Cg.of_eq ?_)
  rw [List.length_drop]
  congr 1
  funext j
  unfold cfI
  rw [List.getD_eq_getElem?_getD, List.getElem?_drop, List.getD_eq_getElem?_getD]
theorem othP_root {p : Nat} (hp : 1 < p) {xs : List Nat} {i : Nat} (hi : i < xs.length) (x : Int) : Cg p (prodX xs x xs.length) ((x - cfI xs i) * evI (fun k => (othP p xs i k : Int)) x xs.length) := by
  have hl := allL_len p xs
  have h1 := quo_root (cfI (allL p xs)) (cfI xs i) x xs.length
  have h2 : Cg p (evI (fun k => (othP p xs i k : Int)) x xs.length) (evI (fun k => quoI (cfI (allL p xs)) (cfI xs i) (xs.length + 1) (k + 1)) x xs.length) := evI_cg (fun k => by
    have := woP_quo (p := p) (r := xs.getD i 0) (allL p xs) k
    rw [hl] at this
    exact this) Cg.rfl' _
  have h3 := allL_ev hp xs x
  have h4 := allL_ev hp xs (cfI xs i)
  rw [prodX_zero xs i _ hi] at h4
  rw [h1] at h3
  exact h3.symm.trans (((h4.add (Cg.rfl'.mul h2.symm))).trans (Cg.of_eq (Int.zero_add _)))
theorem othP_other {p : Nat} (h : okP p = true) {xs : List Nat} (hd : DiffX p xs) {i k : Nat} (hi : i < xs.length) (hk : k < xs.length) (hne : k ≠ i) : Cg p (evI (fun t => (othP p xs i t : Int)) (cfI xs k) xs.length) 0 := by
  have hp := okP_lt h
  have h1 := othP_root (p := p) (by omega) hi (cfI xs k)
  rw [prodX_zero xs k _ hk] at h1
  rcases mul_zero_cg h h1.symm with h2 | h2
  · exact absurd (by obtain ⟨c, hc⟩ := h2; exact ⟨c, by rw [← hc]; omega⟩) (hd k i hk hi hne)
  · exact h2
theorem vanV_top {p : Nat} (hp : 1 < p) (xs : List Nat) : ∀ k, Cg p (vanV p xs k k : Int) 1
  | 0 => Cg.rfl'
  | k + 1 => by
    have e : vanV p xs (k + 1) (k + 1) = (vanV p xs k k + negP p (vanV p xs k (k + 1) * xs.getD k 0 % p)) % p := by
      rw [vanV]
      simp only []
      rw [if_neg (by omega), if_pos (by omega), Nat.add_sub_cancel]
    rw [e, vanV_out p xs k (k + 1) (by omega), Nat.zero_mul]
    refine (Cg.mod _).trans (Cg.trans (Cg.of_eq (Int.natCast_add _ _)) (((vanV_top hp xs k).add (negP_cg p _ (by omega))).trans (Cg.of_eq ?_)))
    simp
theorem othP_top {p : Nat} (hp : 1 < p) {xs : List Nat} (hn : 0 < xs.length) (i : Nat) : Cg p (othP p xs i (xs.length - 1) : Int) 1 := by
  have hl := allL_len p xs
  unfold othP
  rw [woP_step p _ _ (by omega), woP_end p _ _ (by omega), Nat.zero_mul, Nat.zero_mod, Nat.add_zero]
  refine (Cg.mod _).trans ?_
  rw [show xs.length - 1 + 1 = xs.length by omega]
  have := cfI_all (p := p) xs (i := xs.length) (by omega)
  unfold cfI at this
  rw [this]
  exact vanV_top hp xs _
theorem othP_own {p : Nat} (h : okP p = true) {xs : List Nat} (hd : DiffX p xs) {i : Nat} (hi : i < xs.length) : ¬ Cg p (evI (fun t => (othP p xs i t : Int)) (cfI xs i) xs.length) 0 := fun hc => by
  have hp := okP_lt h
  have hz := all_zero h xs.length (fun t => (othP p xs i t : Int)) (cfI xs) hd (fun k hk => by
    by_cases e : k = i
    · subst e; exact hc
    · exact othP_other h hd hi hk e) (xs.length - 1) (by omega)
  exact one_ne h (hz.symm.trans (othP_top (by omega) (by omega) i))
theorem accI_ev {p : Nat} (xs ys : List Nat) (x : Int) (n : Nat) : ∀ m, Cg p (evI (fun t => (accI p xs ys m t : Int)) x n) (sumI (fun i => (facP p xs ys i : Int) * evI (fun t => (othP p xs i t : Int)) x n) m)
  | 0 => by
    refine Cg.of_eq ?_
    show evI (fun _ => ((0 : Nat) : Int)) x n = 0
    rw [evI_sum, ← sumI_zero n]
    congr 1
    funext k
    simp
  | m + 1 => by
    rw [sumI, ← evI_mul]
    refine Cg.trans ?_ ((accI_ev xs ys x n m).add Cg.rfl')
    rw [← evI_add]
    refine evI_cg (fun t => ?_) Cg.rfl' _
    show Cg p (((accI p xs ys m t + facP p xs ys m * othP p xs m t % p) % p : Nat) : Int) _
    refine (Cg.mod _).trans (Cg.trans (Cg.of_eq (Int.natCast_add _ _)) (Cg.rfl'.add ((Cg.mod _).trans (Cg.of_eq (Int.natCast_mul _ _)))))
/-- The program's interpolation takes the given values. -/
theorem intP_val {p : Nat} (h : okP p = true) {xs ys : List Nat} (hd : DiffX p xs) {k : Nat} (hk : k < xs.length) : Cg p (evI (fun t => (intP p xs ys t : Int)) (cfI xs k) xs.length) (cfI ys k) := by
  refine (accI_ev xs ys _ _ _).trans (sumI_one hk (fun i hi hne => ?_) ?_)
  · exact (Cg.rfl'.mul (othP_other h hd hi hk (fun e => hne e.symm))).trans (Cg.of_eq (Int.mul_zero _))
  · have hb : Cg p (hornP p (xs.getD k 0) (othL p xs k) : Int) (evI (fun t => (othP p xs k t : Int)) (cfI xs k) xs.length) := by
      refine (hornP_cg _).trans (Cg.of_eq ?_)
      have hl : (othL p xs k).length = xs.length := by simp [othL]
      rw [hl]
      exact evI_range _ _ _
    have hn := inv_any h (a := hornP p (xs.getD k 0) (othL p xs k)) fun e => othP_own h hd hk (hb.symm.trans e)
    have hc : Cg p (facP p xs ys k : Int) (cfI ys k * ((hornP p (xs.getD k 0) (othL p xs k) ^ (p - 2) % p : Nat) : Int)) := (Cg.mod _).trans (Cg.of_eq (Int.natCast_mul _ _))
    refine (hc.mul hb.symm).trans ?_
    rw [Int.mul_assoc]
    exact (Cg.rfl'.mul (Cg.trans (Cg.of_eq (Int.mul_comm _ _)) hn)).trans (Cg.of_eq (Int.mul_one _))
/-- Both interpolations have the same coefficients. -/
theorem intP_lag {p : Nat} (h : okP p = true) {xs ys : List Nat} (hd : DiffX p xs) {i : Nat} (hi : i < xs.length) : Cg p (intP p xs ys i : Int) (cfI (lagL p xs ys) i) :=
  same_values h hd (fun k hk => by
    have h1 := lagL_val h (ys := ys) hd hk
    rw [← evL_ext (lagL p xs ys) (cfI xs k) (lagR_len p xs ys _ (Nat.le_refl _))] at h1
    exact (intP_val h hd hk).trans h1.symm) i hi
theorem intP_lt {p : Nat} (hp : 0 < p) (xs ys : List Nat) (i : Nat) : intP p xs ys i < p := by
  unfold intP
  cases xs.length with
  | zero => exact hp
  | succ k => exact Nat.mod_lt _ hp
theorem lagL_lt {p : Nat} (hp : 0 < p) (xs ys : List Nat) : ∀ x ∈ lagL p xs ys, x < p := fun x hx => by
  unfold lagL at hx
  cases e : xs.length with
  | zero => rw [e] at hx; cases hx
  | succ k => rw [e, lagR] at hx; exact trimP_lt hp hx
/-- The masks: the program's list is the document's. -/
theorem masks_eq {p : Nat} (h : okP p = true) {xs ys : List Nat} (hd : DiffX p xs) : (List.range xs.length).map (intP p xs ys) = padP (lagL p xs ys) xs.length := by
  have hp := okP_lt h
  have hl := lagR_len p xs ys _ (Nat.le_refl xs.length)
  refine list_ext0 (by rw [padP_len, List.length_map, List.length_range]; unfold lagL; omega) fun i hi => ?_
  rw [List.length_map, List.length_range] at hi
  rw [range_get, if_pos hi, padP_get]
  exact Cg.eq (intP_lag h hd hi) (intP_lt (by omega) _ _ _) (getD_lt (by omega) (lagL_lt (by omega) xs ys) i)
end Go.Proofs.Ytefnagiffllhbaa

/- PlI -/
namespace Go.Proofs.Ytefnagiffllhbaa
open Go.RowKit

/-- An int, as a cell. -/
def RI1 (_w : World) (cs : List Value) (x : Int) : Prop := cs = [.int .i64 x] ∧ -9223372036854775808 ≤ x ∧ x ≤ 9223372036854775807
theorem kept_RI1 : Kept RI1 := fun _ _ _ _ _ h => h
/-- A slice of ints. -/
def RInts : World → List Value → List Int → Prop := RSl 1 RI1
theorem kept_RInts : Kept RInts := kept_RSl kept_RI1
theorem ri_get {w : World} {A : Option Addr} {l : List Int} (h : RdL w 1 RI1 A l) {i : Nat} (hi : i < l.length) : ∃ b q, A = some ⟨b, q, none⟩ ∧ b < w.heap.size ∧ w.cell? ⟨b, q + i, none⟩ = some (.int .i64 (l.getD i 0)) ∧ -9223372036854775808 ≤ l.getD i 0 ∧ l.getD i 0 ≤ 9223372036854775807 := by
  obtain ⟨b, q, rfl⟩ := h.base (by omega) (by omega)
  obtain ⟨cs, -, hc, rfl, h1, h2⟩ := h.get hi
  have h0 := hc 0 (by omega)
  rw [Nat.mul_one, Nat.add_zero] at h0
  have e : l.getD i 0 = l[i] := by rw [List.getD_eq_getElem?_getD, List.getElem?_eq_getElem hi]; rfl
  rw [e]
  exact ⟨b, q, rfl, World.block_lt_of_cell? _ _ h0, h0, h1, h2⟩
/-- Position i is out of order. -/
def posBad (N : Nat) (l : List Int) (i : Nat) : Bool := decide (l.getD i 0 < 0) || decide ((N : Int) ≤ l.getD i 0) || (decide (0 < i) && decide (l.getD i 0 ≤ l.getD (i - 1) 0))
def posOk (N Q : Nat) (l : List Int) : Bool := ((List.range l.length).all fun i => !posBad N l i) && decide (l.length = Q)
theorem posOk_bad {N Q : Nat} {l : List Int} {i : Nat} (hi : i < l.length) (h : posBad N l i = true) : posOk N Q l = false := by
  unfold posOk
  rw [Bool.and_eq_false_iff]
  left
  rw [List.all_eq_false]
  exact ⟨i, List.mem_range.2 hi, by simp [h]⟩
theorem posOk_good {N Q : Nat} {l : List Int} (h : ∀ i, i < l.length → posBad N l i = false) : posOk N Q l = decide (l.length = Q) := by
  unfold posOk
  rw [List.all_eq_true.2 fun i hi => by simp [h i (List.mem_range.1 hi)], Bool.true_and]

set_option maxRecDepth 100000 in
set_option maxHeartbeats 2000000 in
theorem rPositions_any (L : LayR) (A : Option Addr) (n c : Nat) (l : List Int) (w : World) (hl : RInts w [.slice A n c] l) :
    Calls Try.prog 15 #[.agg (layCs L), .slice A n c] w fun e w' => e = .returned (.bool (posOk L.n L.queries l)) ∧ Below w.heap.size w w' := by
  obtain ⟨A', n', c', he, hln, hnc, hcx, hrd⟩ := hl
  simp at he
  obtain ⟨rfl, rfl, rfl⟩ := he
  subst hln
  have gm := lw_max hnc hcx
  have HOB := Lib.hid (fun i hi h => posOk_bad (N := L.n) (Q := L.queries) (l := l) (i := i) hi h)
  have HOG := Lib.hid (fun h => posOk_good (N := L.n) (Q := L.queries) (l := l) h)
  obtain ⟨ans, hans⟩ : ∃ ans, ans = posOk L.n L.queries l := ⟨_, rfl⟩
  rw [← hans] at HOB HOG ⊢
  have hb0 : Below w.heap.size w (w.alloc (.cells #[.int .u64 (L.p : Int), .int .i64 (L.block : Int), .int .i64 (L.queries : Int), .int .i64 (L.k : Int), .int .i64 (L.n : Int), .int .i64 (L.secret : Int), .int .i64 (L.rows : Int), .int .i64 (L.a : Int), .int .i64 (L.b : Int), .int .i64 (L.b : Int), .int .i64 (L.b : Int)] 33)) := (Below.refl _ _).alloc (Nat.le_refl _) _
  have kl := Blk.new w 33 #[.int .u64 (L.p : Int), .int .i64 (L.block : Int), .int .i64 (L.queries : Int), .int .i64 (L.k : Int), .int .i64 (L.n : Int), .int .i64 (L.secret : Int), .int .i64 (L.rows : Int), .int .i64 (L.a : Int), .int .i64 (L.b : Int), .int .i64 (L.b : Int), .int .i64 (L.b : Int)]
  clear hans hcx
  unfold layCs
  go_enter Try.func15, Try.ntmps15
  go_upto_region 1 with fail
  generalize w.alloc _ = w1 at kl hb0 ⊢
  go_wp2_with fail
  go_loopw [5] (fun y wr => ∃ i : Nat, i ≤ l.length ∧ y = .int .i64 (i : Int) ∧ Hid (∀ k, k < i → posBad L.n l k = false) ∧ Blk wr w.heap.size 33 #[.int .u64 (L.p : Int), .int .i64 (L.block : Int), .int .i64 (L.queries : Int), .int .i64 (L.k : Int), .int .i64 (L.n : Int), .int .i64 (L.secret : Int), .int .i64 (L.rows : Int), .int .i64 (L.a : Int), .int .i64 (L.b : Int), .int .i64 (L.b : Int), .int .i64 (L.b : Int)] ∧ Below w.heap.size w wr) (fun y _ => l.length - (intOf y).toNat)
  case atStart => exact ⟨0, Nat.zero_le _, rfl, Lib.hid (fun k hk => absurd hk (Nat.not_lt_zero _)), kl, hb0⟩
  case round =>
    clear kl hb0
    obtain ⟨i, hi, rfl, HP, kl, hb⟩ := hrel
    have cl := kl.cell
    have ll := kl.lt
    by_cases hlt : i < l.length
    · have q1 : (i : Int) < (l.length : Int) := by omega
      have q2 : (0 : Int) ≤ (i : Int) := by omega
      obtain ⟨b, q, rfl, hbl, hc, hx1, hx2⟩ := ri_get (hrd.below kept_RI1 hb) hlt
      have HBi := Lib.hid (HOB.out i hlt)
      have HST := Lib.hid (show posBad L.n l i = false → ∀ k, k < i + 1 → posBad L.n l k = false from fun h k hk => by
        by_cases e : k = i
        · subst e; exact h
        · exact HP.out k (by omega))
      obtain ⟨x, hx⟩ : ∃ x, x = l.getD i 0 := ⟨_, rfl⟩
      have HPB := Lib.hid (show posBad L.n l i = (decide (x < 0) || decide ((L.n : Int) ≤ x) || (decide (0 < i) && decide (x ≤ l.getD (i - 1) 0))) by rw [hx]; rfl)
      rw [← hx] at hc hx1 hx2
      clear hx
      by_cases z1 : x < 0
      · have d1 : decide (x < 0) = true := decide_eq_true z1
        have HB := Lib.hid (HBi.out (by rw [HPB.out, d1]; rfl))
        go_upto_region 4 with fail
        refine wpO_begin (Later) [] [0, 1, 2, 3, 4, 5, 6, 7, 8, 9, 10, 11, 12, 13, 14, 15, 16, 17, 18, 19, 20, 21, 22, 23, 24, 25, 26, 27, 28, 29] (by kernel_rfl) (by kernel_rfl) ?_
        refine wpO_startK (later_moves) ?_
        intro Wc HWc hacc
        have hbW : Below wr.heap.size wr Wc := by rw [HWc.out]; exact (Below.refl _ _).drew
        repeat (first | (refine wpO_skip (later_moves) rfl rfl (fun _ _ _ h => h) ?_ ; simp only [Act.put, List.setIfInBounds_toArray, List.set_cons_zero, List.set_cons_succ]) | (refine wpO_light (v := ?_) (later_moves) rfl rfl (fun _ _ _ h => h) ?_ ?_ ; rotate_left ; (· (intro w' hR ; (first | have hcells := later_cellsD ((later_moves).trans _ _ _ hacc hR) | skip) ; go_simp ; try with_reducible rfl)) ; simp only [Act.put, List.setIfInBounds_toArray, List.set_cons_zero, List.set_cons_succ]))
        refine wpO_done ?_
        replace kl := kl.below hbW kl.lt
        replace hb := below_chain hb hbW
        clear hbW hacc HWc
        go_wp2
        go_ret
        exact ⟨by rw [HB.out]; rfl, hb⟩
      have d1 : decide (x < 0) = false := decide_eq_false z1
      by_cases z2 : (L.n : Int) ≤ x
      · have d2 : decide ((L.n : Int) ≤ x) = true := decide_eq_true z2
        have HB := Lib.hid (HBi.out (by rw [HPB.out, d1, d2]; rfl))
        go_upto_region 4 with fail
        refine wpO_begin (Later) [] [0, 1, 2, 3, 4, 5, 6, 7, 8, 9, 10, 11, 12, 13, 14, 15, 16, 17, 18, 19, 20, 21, 22, 23, 24, 25, 26, 27, 28, 29] (by kernel_rfl) (by kernel_rfl) ?_
        refine wpO_startK (later_moves) ?_
        intro Wc HWc hacc
        have hbW : Below wr.heap.size wr Wc := by rw [HWc.out]; exact (Below.refl _ _).drew
        repeat (first | (refine wpO_skip (later_moves) rfl rfl (fun _ _ _ h => h) ?_ ; simp only [Act.put, List.setIfInBounds_toArray, List.set_cons_zero, List.set_cons_succ]) | (refine wpO_light (v := ?_) (later_moves) rfl rfl (fun _ _ _ h => h) ?_ ?_ ; rotate_left ; (· (intro w' hR ; (first | have hcells := later_cellsD ((later_moves).trans _ _ _ hacc hR) | skip) ; go_simp ; try with_reducible rfl)) ; simp only [Act.put, List.setIfInBounds_toArray, List.set_cons_zero, List.set_cons_succ]))
        refine wpO_done ?_
        replace kl := kl.below hbW kl.lt
        replace hb := below_chain hb hbW
        clear hbW hacc HWc
        go_wp2
        go_ret
        exact ⟨by rw [HB.out]; rfl, hb⟩
      have d2 : decide ((L.n : Int) ≤ x) = false := decide_eq_false z2
      rcases Nat.eq_zero_or_pos i with h0 | h0
      · subst h0
        have HG := Lib.hid (HST.out (by rw [HPB.out, d1, d2]; rfl))
        rw [Nat.add_zero] at hc
        go_upto_region 4 with fail
        refine wpO_begin (Later) [] [0, 1, 2, 3, 4, 5, 6, 7, 8, 9, 10, 11, 12, 13, 14, 15, 16, 17, 18, 19, 20, 21, 22, 23, 24, 25, 26, 27, 28, 29] (by kernel_rfl) (by kernel_rfl) ?_
        refine wpO_startK (later_moves) ?_
        intro Wc HWc hacc
        have hbW : Below wr.heap.size wr Wc := by rw [HWc.out]; exact (Below.refl _ _).drew
        repeat (first | (refine wpO_skip (later_moves) rfl rfl (fun _ _ _ h => h) ?_ ; simp only [Act.put, List.setIfInBounds_toArray, List.set_cons_zero, List.set_cons_succ]) | (refine wpO_light (v := ?_) (later_moves) rfl rfl (fun _ _ _ h => h) ?_ ?_ ; rotate_left ; (· (intro w' hR ; (first | have hcells := later_cellsD ((later_moves).trans _ _ _ hacc hR) | skip) ; go_simp ; try with_reducible rfl)) ; simp only [Act.put, List.setIfInBounds_toArray, List.set_cons_zero, List.set_cons_succ]))
        refine wpO_done ?_
        replace kl := kl.below hbW kl.lt
        replace hb := below_chain hb hbW
        clear hbW hacc HWc
        go_wp2
        go_roundw
        case rel => exact ⟨0 + 1, by omega, by go_num, HG.out, kl, hb⟩
        case measure => simp [intOf]; omega
      obtain ⟨j, hj⟩ : ∃ j, j = i - 1 := ⟨_, rfl⟩
      have q3 : (0 : Int) < (i : Int) := by omega
      have q4 : (i : Int) - 1 = (j : Int) := by omega
      have q5 : IntKind.i64.wrap (j : Int) = (j : Int) := wr_i64 _ (by omega) (by omega)
      have q6 : (j : Int) < (l.length : Int) := by omega
      have q7 : (0 : Int) ≤ (j : Int) := by omega
      have d3 : decide ((0 : Int) < (i : Int)) = true := decide_eq_true q3
      obtain ⟨b', q', e', hbl', hc', hy1, hy2⟩ := ri_get (hrd.below kept_RI1 hb) (i := j) (by omega)
      injection e' with e'
      injection e' with e1 e2
      subst e1 e2
      obtain ⟨y, hy⟩ : ∃ y, y = l.getD j 0 := ⟨_, rfl⟩
      have HPC := Lib.hid (show posBad L.n l i = decide (x ≤ y) by rw [HPB.out, d1, d2, decide_eq_true h0, hy, hj]; simp)
      rw [← hy] at hc' hy1 hy2
      clear hy hj HPB
      by_cases z3 : x ≤ y
      · have d4 : decide (x ≤ y) = true := decide_eq_true z3
        have HB := Lib.hid (HBi.out (by rw [HPC.out, d4]))
        go_upto_region 4 with fail
        refine wpO_begin (Later) [] [0, 1, 2, 3, 4, 5, 6, 7, 8, 9, 10, 11, 12, 13, 14, 15, 16, 17, 18, 19, 20, 21, 22, 23, 24, 25, 26, 27, 28, 29] (by kernel_rfl) (by kernel_rfl) ?_
        refine wpO_startK (later_moves) ?_
        intro Wc HWc hacc
        have hbW : Below wr.heap.size wr Wc := by rw [HWc.out]; exact (Below.refl _ _).drew
        repeat (first | (refine wpO_skip (later_moves) rfl rfl (fun _ _ _ h => h) ?_ ; simp only [Act.put, List.setIfInBounds_toArray, List.set_cons_zero, List.set_cons_succ]) | (refine wpO_light (v := ?_) (later_moves) rfl rfl (fun _ _ _ h => h) ?_ ?_ ; rotate_left ; (· (intro w' hR ; (first | have hcells := later_cellsD ((later_moves).trans _ _ _ hacc hR) | skip) ; go_simp ; try with_reducible rfl)) ; simp only [Act.put, List.setIfInBounds_toArray, List.set_cons_zero, List.set_cons_succ]))
        refine wpO_done ?_
        replace kl := kl.below hbW kl.lt
        replace hb := below_chain hb hbW
        clear hbW hacc HWc
        go_wp2
        go_ret
        exact ⟨by rw [HB.out]; rfl, hb⟩
      have d4 : decide (x ≤ y) = false := decide_eq_false z3
      have HG := Lib.hid (HST.out (by rw [HPC.out, d4]))
      go_upto_region 4 with fail
      refine wpO_begin (Later) [] [0, 1, 2, 3, 4, 5, 6, 7, 8, 9, 10, 11, 12, 13, 14, 15, 16, 17, 18, 19, 20, 21, 22, 23, 24, 25, 26, 27, 28, 29] (by kernel_rfl) (by kernel_rfl) ?_
      refine wpO_startK (later_moves) ?_
      intro Wc HWc hacc
      have hbW : Below wr.heap.size wr Wc := by rw [HWc.out]; exact (Below.refl _ _).drew
      repeat (first | (refine wpO_skip (later_moves) rfl rfl (fun _ _ _ h => h) ?_ ; simp only [Act.put, List.setIfInBounds_toArray, List.set_cons_zero, List.set_cons_succ]) | (refine wpO_light (v := ?_) (later_moves) rfl rfl (fun _ _ _ h => h) ?_ ?_ ; rotate_left ; (· (intro w' hR ; (first | have hcells := later_cellsD ((later_moves).trans _ _ _ hacc hR) | skip) ; go_simp ; try with_reducible rfl)) ; simp only [Act.put, List.setIfInBounds_toArray, List.set_cons_zero, List.set_cons_succ]))
      refine wpO_done ?_
      replace kl := kl.below hbW kl.lt
      replace hb := below_chain hb hbW
      clear hbW hacc HWc
      go_wp2
      go_roundw
      case rel => exact ⟨i + 1, by omega, by go_num, HG.out, kl, hb⟩
      case measure => simp [intOf]; omega
    · obtain rfl : i = l.length := by omega
      have q1 : ¬ ((l.length : Int) < (l.length : Int)) := by omega
      have HE := Lib.hid (HOG.out fun k hk => HP.out k hk)
      by_cases hq : l.length = L.queries
      · have d1 : ((l.length : Int) == (L.queries : Int)) = true := by rw [beq_iff_eq]; omega
        have HEE := Lib.hid (show ans = true by rw [HE.out, decide_eq_true hq])
        clear hq
        go_wp2
        go_ret
        exact ⟨by rw [HEE.out]; rfl, hb⟩
      · have d1 : ((l.length : Int) == (L.queries : Int)) = false := by rw [beq_eq_false_iff_ne]; omega
        have HEE := Lib.hid (show ans = false by rw [HE.out, decide_eq_false hq])
        go_wp2
        go_ret
        exact ⟨by rw [HEE.out]; rfl, hb⟩
end Go.Proofs.Ytefnagiffllhbaa

/- PlJ -/
namespace Go.Proofs.Ytefnagiffllhbaa
open Go.RowKit

/-- x^Block - 1, as the document computes it. -/
def mzP (L : LayR) (x : Nat) : Nat := (x ^ L.block % L.p + negP L.p 1) % L.p
/-- The polynomial through the message. -/
def maP (L : LayR) (msg : List Nat) : List Nat := (List.range L.block).map (intR L.p msg 1)
/-- The point of an opened column. -/
def mxV (L : LayR) (pos : List Int) (i : Nat) : Nat := domR L.p (rowOf L.p).1 L.n (pos.getD i 0).toNat
/-- The value that the masks must have there. -/
def myV (L : LayR) (msg : List Nat) (pos : List Int) (vals : List Nat) (i : Nat) : Nat :=
  (vals.getD i 0 + negP L.p (evalP L.p (maP L msg) (mxV L pos i))) % L.p * (mzP L (mxV L pos i) ^ (L.p - 2) % L.p) % L.p
def mXs (L : LayR) (pos : List Int) : List Nat := (List.range pos.length).map (mxV L pos)
def mYs (L : LayR) (msg : List Nat) (pos : List Int) (vals : List Nat) : List Nat := (List.range pos.length).map (myV L msg pos vals)
/-- The masks. -/
def masksR (L : LayR) (msg : List Nat) (pos : List Int) (vals : List Nat) : List Nat := padP (lagL L.p (mXs L pos) (mYs L msg pos vals)) L.queries
def masksOk (L : LayR) (pos : List Int) (vals : List Nat) : Bool := posOk L.n L.queries pos && elOk vals L.queries L.p
theorem posOk_len {N Q : Nat} {l : List Int} (h : posOk N Q l = true) : l.length = Q := by
  unfold posOk at h
  rw [Bool.and_eq_true] at h
  exact of_decide_eq_true h.2
theorem posOk_at {N Q : Nat} {l : List Int} (h : posOk N Q l = true) {i : Nat} (hi : i < l.length) : 0 ≤ l.getD i 0 ∧ l.getD i 0 < N ∧ (0 < i → l.getD (i - 1) 0 < l.getD i 0) := by
  unfold posOk at h
  rw [Bool.and_eq_true] at h
  have h1 := List.all_eq_true.1 h.1 i (List.mem_range.2 hi)
  simp only [posBad, Bool.not_or, Bool.and_eq_true, Bool.not_eq_true', decide_eq_false_iff_not, Bool.and_eq_false_iff] at h1
  obtain ⟨⟨h2, h3⟩, h4⟩ := h1
  refine ⟨by omega, by omega, fun h0 => ?_⟩
  rcases h4 with h4 | h4 <;> omega
theorem domR_lt {p s n : Nat} (hp : 0 < p) (k : Nat) : domR p s n k < p := by
  unfold domR
  cases k with
  | zero => rw [geoR]; exact Nat.mod_lt _ hp
  | succ k => rw [geoR]; exact Nat.mod_lt _ hp
end Go.Proofs.Ytefnagiffllhbaa
