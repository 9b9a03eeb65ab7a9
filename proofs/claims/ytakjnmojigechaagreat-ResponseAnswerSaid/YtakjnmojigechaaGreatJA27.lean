/- A part of the proof: TrC. No condition. -/
import Derived.Test.YtakjnmojigechaaGreatJA26

namespace Go.Proofs.YtakjnmojigechaaGreat
open Go.RowKit
def invP (p n j : Nat) (l : List Nat) (k : Nat) : Nat := fftP p j (redP p l) (rootP p n ^ (p - 2) % p) k * (n ^ (p - 2) % p) % p
set_option maxRecDepth 100000 in
set_option maxHeartbeats 2000000 in
theorem tInverse_any (p : Nat) (A : Option Addr) (n c j : Nat) (l : List Nat) (w : World) (hp : okP p = true) (hl : RWd w [.slice A n c] l) (hn : LenOk p n) (hj : n = 2 ^ j) :
    Calls Tryz.prog 54 #[fv p, .slice A n c] w fun e w' => ∃ g, e = .returned (.tuple #[.slice (some ⟨g, 0, none⟩) n n, .int .i64 0]) ∧ w.heap.size ≤ g ∧ Blk w' g 22 (fillC n (invP p n j l)) ∧ Below w.heap.size w w' := by
  obtain ⟨hp1, hp2⟩ := okP_lt hp
  have hn4 := hn.le
  have hj12 : j ≤ 12 := by have := pow_le (j := j) (by omega); omega
  have HV := Lib.hid (fun w => fValid_any p w hp)
  have HR := Lib.hid (fun w => tRoot_any p n w hp hn)
  have HD := Lib.hid (fun w' (hb : Below w.heap.size w w') => tReduced_any p A n c l w' hp (kept_RWd _ _ _ _ hb hl) (by omega))
  have HM := Lib.hid (fun a b w => fMul_any p a b w hp)
  obtain ⟨r, hr⟩ : ∃ r, r = rootP p n := ⟨_, rfl⟩
  obtain ⟨ri, hri⟩ : ∃ ri, ri = r ^ (p - 2) % p := ⟨_, rfl⟩
  obtain ⟨pt, hpt⟩ : ∃ pt, pt = n ^ (p - 2) % p := ⟨_, rfl⟩
  have HI1 := Lib.hid (fun w => by have := fInv_any p r w hp; rw [← hri] at this; exact this)
  have HI2 := Lib.hid (fun w => by have := fInv_any p n w hp; rw [← hpt] at this; exact this)
  obtain ⟨a, ha⟩ : ∃ a, a = redP p l := ⟨_, rfl⟩
  obtain ⟨E, hE⟩ : ∃ E, E = fftP p j a ri := ⟨_, rfl⟩
  have HVA := Lib.hid (fun g w (k : Blk w g 22 (fillC n a)) => by have := values_any p hp j hj12 a ri g w (by rw [← hj]; exact k); rw [← hj, ← hE] at this; exact this)
  have HRES := Lib.hid (show invP p n j l = fun k => E k * pt % p by funext k; unfold invP; rw [← hr, ← hri, ← hpt, ← ha, ← hE])
  rw [HRES.out]
  rw [← hr] at HR
  rw [← ha] at HD
  clear hr hri hpt ha hE hj hn hp1 hp2 hl
  unfold fv at *
  have kf := Blk.new w 96 #[.int .u64 (p : Int)]
  have hb0 : Below w.heap.size w (w.alloc (.cells #[.int .u64 (p : Int)] 96)) := (Below.refl _ _).alloc (Nat.le_refl _) _
  have gn : (n : Int) ≤ 4096 := by omega
  have en : IntKind.u64.wrap (n : Int) = (n : Int) := wr_nat _ (by omega)
  go_enter Tryz.func54, Tryz.ntmps54
  go_wp2_with fail
  generalize w.alloc _ = w1 at kf hb0 ⊢
  refine (HV.out _).mono ?_
  rintro e w2 ⟨rfl, hb2⟩
  replace kf := kf.below hb2 kf.lt
  replace hb0 := below_chain hb0 hb2
  clear hb2
  have cf := kf.cell
  go_wp2_with fail
  refine (HR.out _).mono ?_
  rintro e w3 ⟨rfl, hb3⟩
  replace kf := kf.below hb3 kf.lt
  replace hb0 := below_chain hb0 hb3
  clear hb3 cf
  have cf := kf.cell
  go_wp2_with fail
  refine (HD.out _ hb0).mono ?_
  rintro e w4 ⟨g0, rfl, hg0, kr, hb4⟩
  have hg1 : w.heap.size < g0 := by have := kf.lt; omega
  replace kf := kf.below hb4 kf.lt
  replace hb0 := below_chain hb0 hb4
  clear hb4 cf hg0
  have cf := kf.cell
  have lf := kf.lt
  have nf : w.heap.size ≠ g0 := by omega
  go_upto_region 7 with fail
  refine wpO_begin (FromX g0 w4.heap.size) [4, 5] [0, 1, 2, 3, 4, 5] (by kernel_rfl) (by kernel_rfl) ?_
  refine wpO_startK (fromX_moves g0 w4.heap.size) ?_
  intro Wc HWc hacc
  repeat (first | (refine wpO_skip (fromX_moves g0 w4.heap.size) rfl rfl (fun _ _ _ h => h) ?_ ; simp only [Act.put, List.setIfInBounds_toArray, List.set_cons_zero, List.set_cons_succ]) | (refine wpO_light (v := ?_) (fromX_moves g0 w4.heap.size) rfl rfl (fun _ _ _ h => h) ?_ ?_ ; rotate_left ; (· (intro w' hR ; (first | have hcells := fromX_cellsD ((fromX_moves g0 w4.heap.size).trans _ _ _ hacc hR) | skip) ; go_simp ; try with_reducible rfl)) ; simp only [Act.put, List.setIfInBounds_toArray, List.set_cons_zero, List.set_cons_succ]))
  have hxd : Below w4.heap.size w4 Wc := by rw [HWc.out]; exact (Below.refl _ _).drew
  have hNc : w4.heap.size ≤ Wc.heap.size := hxd.size
  replace kf := kf.below hxd kf.lt
  replace kr := kr.below hxd kr.lt
  replace hb0 := below_chain hb0 hxd
  clear hxd HWc cf lf
  refine wpO_call (fromX_moves g0 w4.heap.size) rfl rfl rfl (fun _ => by go_simp <;> rfl) ((HI1.out _).mono ?_)
  rintro e w5 ⟨rfl, hb5⟩
  refine ⟨_, rfl, fromX_below hb5 hNc, ?_⟩
  replace hacc := (fromX_moves g0 w4.heap.size).trans _ _ _ hacc (fromX_below hb5 hNc)
  simp only [Act.put, List.setIfInBounds_toArray, List.set_cons_zero, List.set_cons_succ]
  replace hNc := Nat.le_trans hNc hb5.size
  replace kf := kf.below hb5 kf.lt
  replace kr := kr.below hb5 kr.lt
  replace hb0 := below_chain hb0 hb5
  clear hb5
  refine wpO_call (fromX_moves g0 w4.heap.size) rfl rfl rfl (fun _ => by go_simp <;> rfl) ((HVA.out g0 _ kr).mono ?_)
  rintro e w6 ⟨rfl, kr', hg6⟩
  refine ⟨_, rfl, fromX_grown hg6 hNc, ?_⟩
  replace hacc := (fromX_moves g0 w4.heap.size).trans _ _ _ hacc (fromX_grown hg6 hNc)
  simp only [Act.put, List.setIfInBounds_toArray, List.set_cons_zero, List.set_cons_succ]
  replace kf := kf.grown hg6 (fun e => by have := Option.some.inj e; first | omega | (exact absurd this (by assumption)) | (exact absurd this.symm (by assumption)))
  replace hb0 := hb0.trans (below_of_only hg6 hb0.size (by omega))
  clear hg6 hNc hacc kr
  refine wpO_done ?_
  have cf := kf.cell
  go_wp2_with fail
  refine (HI2.out _).mono ?_
  rintro e w7 ⟨rfl, hb7⟩
  replace kf := kf.below hb7 kf.lt
  replace kr' := kr'.below hb7 kr'.lt
  replace hb0 := below_chain hb0 hb7
  clear hb7 cf
  rw [← upTo_zero _ (fun k => E k * pt % p)] at kr'
  go_wp2_with fail
  go_loopw [40] (fun y wr => ∃ i : Nat, i ≤ n ∧ y = .int .i64 (i : Int) ∧ Blk wr w.heap.size 96 #[.int .u64 (p : Int)] ∧ Blk wr g0 22 (fillC n (upTo (fun k => E k * pt % p) E i)) ∧ Below w.heap.size w wr) (fun y _ => n - (intOf y).toNat)
  case atStart => exact ⟨0, Nat.zero_le _, rfl, kf, kr', hb0⟩
  case round =>
    clear kf kr' hb0
    obtain ⟨i, hi, rfl, kf, kr, hb0⟩ := hrel
    by_cases hlt : i < n
    · have q1 : (0 : Int) ≤ (i : Int) := by omega
      have q2 : (i : Int) < (n : Int) := by omega
      obtain ⟨x, hx⟩ : ∃ x, x = E i := ⟨_, rfl⟩
      obtain ⟨z, hz⟩ : ∃ z, z = x * pt % p := ⟨_, rfl⟩
      have HZ := Lib.hid (show z = (fun k => E k * pt % p) i by rw [hz, hx])
      have HX := Lib.hid (fun w => by have := HM.out x pt w; rw [← hz] at this; exact this)
      have ca := kr.cell i
      rw [upTo_get _ _ hlt, ← hx] at ca
      clear hx hz
      have cf := kf.cell
      go_wp2_with fail
      refine (HX.out _).mono ?_
      rintro e w8 ⟨rfl, hb8⟩
      replace kf := kf.below hb8 kf.lt
      replace kr := kr.below hb8 kr.lt
      replace hb0 := below_chain hb0 hb8
      clear hb8 ca cf
      have c2 := kr.cell i
      rw [upTo_get _ _ hlt] at c2
      generalize E i = old at c2
      have f2 := kr.frozen
      go_wp2_with fail
      have hg := set_only (w := w8) g0 i (.int .u64 (z : Int))
      replace kf := kf.grown hg (fun e => by have := Option.some.inj e; first | omega | (exact absurd this (by assumption)) | (exact absurd this.symm (by assumption)))
      replace hb0 := hb0.trans (below_of_only hg hb0.size (by omega))
      replace kr := kr.set_ i (.int .u64 (z : Int))
      rw [upTo_set (F := fun k => E k * pt % p) HZ.out] at kr
      clear hg f2 c2
      go_roundw
      case rel => exact ⟨i + 1, by omega, by go_num, kf, kr, hb0⟩
      case measure => simp [intOf]; omega
    · obtain rfl : n = i := by omega
      rw [upTo_all] at kr
      go_wp2
      go_ret2
      exact ⟨g0, rfl, by omega, kr, hb0⟩
end Go.Proofs.YtakjnmojigechaaGreat
