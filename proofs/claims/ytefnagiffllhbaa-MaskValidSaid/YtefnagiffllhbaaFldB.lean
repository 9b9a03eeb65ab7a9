/-
  The program's field: pow.
-/
import Derived.Test.YtefnagiffllhbaaFldA
namespace Go.Proofs.Ytefnagiffllhbaa
open Go.RowKit

theorem pow_odd (p r a e n : Nat) (h : r * a ^ e % p = n) (he : e % 2 = 1) : (r * a % p) * (a * a % p) ^ (e / 2) % p = n := by
  have h2 : e = 2 * (e / 2) + 1 := by omega
  rw [← h, Nat.mul_mod, Nat.mod_mod, ← Nat.pow_mod, ← Nat.mul_mod]
  conv => rhs; rw [h2, Nat.pow_succ, Nat.pow_mul, Nat.pow_two, Nat.mul_comm _ a, ← Nat.mul_assoc]
theorem pow_even (p r a e n : Nat) (h : r * a ^ e % p = n) (he : e % 2 = 0) : r * (a * a % p) ^ (e / 2) % p = n := by
  have h2 : e = 2 * (e / 2) := by omega
  rw [← h, Nat.mul_mod, ← Nat.pow_mod, ← Nat.mul_mod]
  conv => rhs; rw [h2, Nat.pow_mul, Nat.pow_two]

set_option maxRecDepth 100000 in
set_option maxHeartbeats 1000000 in
theorem fpow_any (p a e : Nat) (w : World) (hp : okP p = true) (ha : a < p) (he : e < 18446744073709551616) :
    Calls Try.prog 84 #[fv p, .int .u64 a, .int .u64 e] w fun e' w' => e' = .returned (.int .u64 ((a ^ e % p : Nat) : Int)) ∧ Below w.heap.size w w' := by
  have hpp : 1 < p := by have := okP_lt hp; omega
  have HM := Lib.hid (fun a b w (h1 : a < p) (h2 : b < p) => fmul_any p a b w hp h1 h2)
  obtain ⟨n, hn⟩ : ∃ n, n = a ^ e % p := ⟨_, rfl⟩
  rw [← hn]
  have HI := Lib.hid (show 1 * a ^ e % p = n by rw [Nat.one_mul, hn])
  have HP := Lib.hid hpp
  clear hn hp hpp
  unfold fv at *
  have hb0 : Below w.heap.size w (w.alloc (.cells #[.int .u64 (p : Int)] 88)) := (Below.refl _ _).alloc (Nat.le_refl _) _
  have kf := Blk.new w 88 #[.int .u64 (p : Int)]
  go_enter Try.func84, Try.ntmps84
  go_wp2_with fail
  generalize w.alloc _ = w0 at hb0 kf ⊢
  go_loopw [1, 2, 7] (fun x y z wr => ∃ a' e' r : Nat, x = .int .u64 (a' : Int) ∧ y = .int .u64 (e' : Int) ∧ z = .int .u64 (r : Int) ∧ a' < p ∧ r < p ∧ e' < 18446744073709551616 ∧ Hid (r * a' ^ e' % p = n) ∧ Below w0.heap.size w0 wr) (fun _ y _ _ => (intOf y).toNat)
  case atStart => exact ⟨a, e, 1, rfl, rfl, rfl, ha, HP.out, he, HI.out, Below.refl _ _⟩
  case round =>
    obtain ⟨a', e', r, rfl, rfl, rfl, ha', hr', he', H, hbr⟩ := hrel
    have kf' := kf.below hbr kf.lt
    have cf := kf'.cell
    by_cases h0 : e' = 0
    · subst h0
      have HE := Lib.hid (show r = n by have := H.out; rw [Nat.pow_zero, Nat.mul_one, Nat.mod_eq_of_lt hr'] at this; exact this)
      go_wp2
      go_ret
      exact ⟨by rw [HE.out]; rfl, hb0.trans (hbr.mono hb0.size)⟩
    · have g1 : (0 : Int) < (e' : Int) := by omega
      obtain ⟨f, hf⟩ : ∃ f, f = e' / 2 := ⟨_, rfl⟩
      have e1 : (e' : Int) / 2 = (f : Int) := by omega
      have eb : bits BinOp.and IntKind.u64 (e' : Int) 1 = ((e' % 2 : Nat) : Int) := by
        have := bits_and_u64_nat e' 1 he' (by omega)
        rw [Nat.and_one_is_mod] at this
        exact this
      rcases (show e' % 2 = 1 ∨ e' % 2 = 0 by omega) with hodd | hodd
      · rw [hodd] at eb
        have HF := Lib.hid hf
        have HM1 := Lib.hid (fun w => HM.out r a' w hr' ha')
        have HX := pow_odd p r a' e' n H.out hodd
        rw [← hf] at HX
        have hs2 : r * a' % p < p := Nat.mod_lt _ (by have := HP.out; omega)
        generalize r * a' % p = s at *
        have HX0 := fun (hf0 : f = 0) => show s * a' ^ f % p = n by rw [hf0, Nat.pow_zero] at HX ⊢; exact HX
        replace HX := Lib.hid HX
        replace HX0 := Lib.hid HX0
        clear hodd hf
        go_wp2_with fail
        refine (HM1.out _).mono ?_
        rintro e w1 ⟨rfl, hb1⟩
        replace kf' := kf'.below hb1 kf'.lt
        replace hbr := below_on hbr hb1 hbr.size
        clear cf hb1
        have cf := kf'.cell
        by_cases hf0 : f = 0
        · have d3 : decide (0 < f) = false := decide_eq_false (by omega)
          have HF0 := Lib.hid hf0
          clear hf0
          go_wp2_with fail
          go_roundw
          case rel => exact ⟨a', f, s, rfl, rfl, rfl, ha', hs2, by have := HF.out; omega, HX0.out HF0.out, hbr⟩
          case measure => have := HF.out; simp [intOf]; omega
        · have g3 : (0 : Int) < (f : Int) := by omega
          have HQ := Lib.hid (fun w => HM.out a' a' w ha' ha')
          have hq2 : a' * a' % p < p := Nat.mod_lt _ (by have := HP.out; omega)
          have HN2 := Lib.hid HX.out
          generalize a' * a' % p = q at *
          go_wp2_with fail
          refine (HQ.out _).mono ?_
          rintro e w2 ⟨rfl, hb2⟩
          replace hbr := below_on hbr hb2 hbr.size
          go_wp2
          go_roundw
          case rel => exact ⟨q, f, s, rfl, rfl, rfl, hq2, hs2, by have := HF.out; omega, HN2.out, hbr⟩
          case measure => have := HF.out; simp [intOf]; omega
      · rw [hodd] at eb
        have HF := Lib.hid hf
        have HX := pow_even p r a' e' n H.out hodd
        rw [← hf] at HX
        have HX0 := fun (hf0 : f = 0) => show r * a' ^ f % p = n by rw [hf0, Nat.pow_zero] at HX ⊢; exact HX
        replace HX := Lib.hid HX
        replace HX0 := Lib.hid HX0
        clear hodd hf
        by_cases hf0 : f = 0
        · have d3 : decide (0 < f) = false := decide_eq_false (by omega)
          have HF0 := Lib.hid hf0
          clear hf0
          go_wp2_with fail
          go_roundw
          case rel => exact ⟨a', f, r, rfl, rfl, rfl, ha', hr', by have := HF.out; omega, HX0.out HF0.out, hbr⟩
          case measure => have := HF.out; simp [intOf]; omega
        · have g3 : (0 : Int) < (f : Int) := by omega
          have HQ := Lib.hid (fun w => HM.out a' a' w ha' ha')
          have hq2 : a' * a' % p < p := Nat.mod_lt _ (by have := HP.out; omega)
          have HN2 := Lib.hid HX.out
          generalize a' * a' % p = q at *
          go_wp2_with fail
          refine (HQ.out _).mono ?_
          rintro e w2 ⟨rfl, hb2⟩
          replace hbr := below_on hbr hb2 hbr.size
          go_wp2
          go_roundw
          case rel => exact ⟨q, f, r, rfl, rfl, rfl, hq2, hr', by have := HF.out; omega, HN2.out, hbr⟩
          case measure => have := HF.out; simp [intOf]; omega
end Go.Proofs.Ytefnagiffllhbaa

