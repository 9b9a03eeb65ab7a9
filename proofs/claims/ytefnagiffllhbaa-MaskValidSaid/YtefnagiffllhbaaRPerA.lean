/-
  The document's field and permutation: ref01.Pow, Exponent, Sum; ref07.Constant, Mix.
-/
import Derived.Test.YtefnagiffllhbaaPerB
import Derived.Test.YtefnagiffllhbaaWd
namespace Go.Proofs.Ytefnagiffllhbaa
open Go.RowKit

set_option maxRecDepth 100000 in
set_option maxHeartbeats 1000000 in
theorem rPow_any (p a e : Nat) (w : World) (hp : okP p = true) (he : e < 18446744073709551616) :
    Calls Try.prog 105 #[.int .u64 p, .int .u64 a, .int .u64 e] w fun e' w' => e' = .returned (.int .u64 ((a ^ e % p : Nat) : Int)) ∧ Below w.heap.size w w' := by
  obtain ⟨hp1, hp2⟩ := okP_lt hp
  have HO := Lib.hid (fun w => by have := rValidP_any p w hp2; rw [hp] at this; exact this)
  have HM := Lib.hid (fun a b w => rMul_any p a b w hp)
  obtain ⟨n, hn⟩ : ∃ n, n = a ^ e % p := ⟨_, rfl⟩
  rw [← hn]
  have HI := Lib.hid (show 1 * (a % p) ^ e % p = n by rw [Nat.one_mul, ← Nat.pow_mod, hn])
  have HP := Lib.hid hp1
  have p1 : (0 : Int) < (p : Int) := by omega
  have e1 : (a : Int) % (p : Int) = ((a % p : Nat) : Int) := rfl
  have e2 : (a : Int).tmod (p : Int) = ((a % p : Nat) : Int) := rfl
  have p3 : ¬ (p = 0) := by omega
  clear hn hp hp1 hp2
  generalize a % p = a0 at *
  go_enter Try.func105, Try.ntmps105
  go_wp2_with fail
  refine (HO.out _).mono ?_
  rintro e' w1 ⟨rfl, hb0⟩
  go_wp2_with fail
  clear e1 e2
  go_loopw [1, 2, 7] (fun x y z wr => ∃ a' e' r : Nat, x = .int .u64 (a' : Int) ∧ y = .int .u64 (e' : Int) ∧ z = .int .u64 (r : Int) ∧ r < p ∧ e' < 18446744073709551616 ∧ Hid (r * a' ^ e' % p = n) ∧ Below w.heap.size w wr) (fun _ y _ _ => (intOf y).toNat)
  case atStart => exact ⟨a0, e, 1, rfl, rfl, rfl, by have := HP.out; omega, he, HI.out, hb0⟩
  case round =>
    clear hb0
    obtain ⟨a', e', r, rfl, rfl, rfl, hr', he', H, hbr⟩ := hrel
    by_cases h0 : e' = 0
    · subst h0
      have HE := Lib.hid (show r = n by have := H.out; rw [Nat.pow_zero, Nat.mul_one, Nat.mod_eq_of_lt hr'] at this; exact this)
      go_wp2
      go_ret
      exact ⟨by rw [HE.out]; rfl, hbr⟩
    · have g1 : (0 : Int) < (e' : Int) := by omega
      obtain ⟨f, hf⟩ : ∃ f, f = e' / 2 := ⟨_, rfl⟩
      have e1 : (e' : Int) / 2 = (f : Int) := by omega
      have e2 : (e' : Int).tdiv 2 = (f : Int) := by rw [Int.tdiv_eq_ediv_of_nonneg (by omega)]; exact e1
      have HQ := Lib.hid (fun w => HM.out a' a' w)
      rcases (show e' % 2 = 1 ∨ e' % 2 = 0 by omega) with hodd | hodd
      · have eb : (e' : Int) % 2 = 1 := by omega
        have ec : (e' : Int).tmod 2 = 1 := by rw [Int.tmod_eq_emod_of_nonneg (by omega)]; exact eb
        have HF := Lib.hid hf
        have HM1 := Lib.hid (fun w => HM.out r a' w)
        have HX := pow_odd p r a' e' n H.out hodd
        rw [← hf] at HX
        have hs2 : r * a' % p < p := Nat.mod_lt _ (by have := HP.out; omega)
        generalize r * a' % p = s at *
        generalize a' * a' % p = q at *
        replace HX := Lib.hid HX
        clear hodd hf
        go_wp2_with fail
        refine (HM1.out _).mono ?_
        rintro e w1 ⟨rfl, hb1⟩
        replace hbr := below_on hbr hb1 hbr.size
        clear hb1
        go_wp2_with fail
        refine (HQ.out _).mono ?_
        rintro e w2 ⟨rfl, hb2⟩
        replace hbr := below_on hbr hb2 hbr.size
        go_wp2
        go_roundw
        case rel => exact ⟨q, f, s, rfl, rfl, rfl, hs2, by have := HF.out; omega, HX.out, hbr⟩
        case measure => have := HF.out; simp [intOf]; omega
      · have eb : (e' : Int) % 2 = 0 := by omega
        have ec : (e' : Int).tmod 2 = 0 := by rw [Int.tmod_eq_emod_of_nonneg (by omega)]; exact eb
        have HF := Lib.hid hf
        have HX := pow_even p r a' e' n H.out hodd
        rw [← hf] at HX
        generalize a' * a' % p = q at *
        replace HX := Lib.hid HX
        clear hodd hf
        go_wp2_with fail
        refine (HQ.out _).mono ?_
        rintro e w2 ⟨rfl, hb2⟩
        replace hbr := below_on hbr hb2 hbr.size
        go_wp2
        go_roundw
        case rel => exact ⟨q, f, r, rfl, rfl, rfl, hr', by have := HF.out; omega, HX.out, hbr⟩
        case measure => have := HF.out; simp [intOf]; omega

theorem idx_w3_2 {w : World} {a b c : Value} : (Instr.index 120 (.agg #[a, b, c]) (.int .i64 2)).run Try.prog w = .ok c w :=
  run_index_arr (i := 2) Try.underlying120 agg_u64 size_u64 (by omega) rfl

set_option maxRecDepth 100000 in
set_option maxHeartbeats 400000 in
theorem rExp_any (p : Nat) (w : World) (hp : okP p = true) :
    Calls Try.prog 113 #[.int .u64 p] w fun e w' => e = .returned (.int .u64 ((rowOf p).2.2 : Int)) ∧ Below w.heap.size w w' := by
  have HR := Lib.hid (row_any p w (okP_lt hp).2)
  clear hp
  unfold rowVal at HR
  generalize (rowOf p).1 = a at *
  generalize (rowOf p).2.1 = b at *
  generalize (rowOf p).2.2 = c at *
  go_enter Try.func113, Try.ntmps113
  go_wp2_with (go_at_call 79; refine HR.out.mono ?_; rintro e w1 ⟨rfl, hb⟩)
  rw [idx_w3_2, Result.andThen, Oper.upon_value]
  go_wp2
  go_ret
  exact ⟨rfl, hb⟩

set_option maxRecDepth 100000 in
set_option maxHeartbeats 400000 in
theorem rGen_any (p : Nat) (w : World) (hp : okP p = true) :
    Calls Try.prog 39 #[.int .u64 p] w fun e w' => e = .returned (.int .u64 ((rowOf p).1 : Int)) ∧ Below w.heap.size w w' := by
  have HR := Lib.hid (row_any p w (okP_lt hp).2)
  clear hp
  unfold rowVal at HR
  generalize (rowOf p).1 = a at *
  generalize (rowOf p).2.1 = b at *
  generalize (rowOf p).2.2 = c at *
  go_enter Try.func39, Try.ntmps39
  go_wp2_with (go_at_call 79; refine HR.out.mono ?_; rintro e w1 ⟨rfl, hb⟩)
  rw [idx_w3_0, Result.andThen, Oper.upon_value]
  go_wp2
  go_ret
  exact ⟨rfl, hb⟩

def sumP (p : Nat) (l : List Nat) : Nat := l.foldl (fun s x => (s + x) % p) 0
set_option maxRecDepth 100000 in
set_option maxHeartbeats 400000 in
theorem rSum_any (p : Nat) (A : Option Addr) (n c : Nat) (l : List Nat) (w : World) (hp : okP p = true) (hl : RWd w [.slice A n c] l) :
    Calls Try.prog 117 #[.int .u64 p, .slice A n c] w fun e w' => e = .returned (.int .u64 (sumP p l : Int)) ∧ Below w.heap.size w w' := by
  obtain ⟨rfl, h1, h2, hlt, hrd⟩ := lw_at hl
  have gm := lw_max h1 h2
  have HA := Lib.hid (fun a b w => rAdd_any p a b w hp)
  have HS := Lib.hid (show sumP p l = l.foldl (fun s x => (s + x) % p) 0 from rfl)
  rw [HS.out]
  clear HS hl h1 h2 hp hlt
  go_enter Try.func117, Try.ntmps117
  go_wp2_with fail
  go_loopw [5, 6] (fun y i wr => ∃ k : Nat, k ≤ l.length ∧ i = .int .i64 (k : Int) ∧ y = .int .u64 (((l.take k).foldl (fun s x => (s + x) % p) 0 : Nat) : Int) ∧ Below w.heap.size w wr) (fun _ i _ => l.length - (intOf i).toNat)
  case atStart => exact ⟨0, Nat.zero_le _, rfl, rfl, Below.refl _ _⟩
  case round =>
    obtain ⟨k, hk, rfl, rfl, hbr⟩ := hrel
    by_cases hlt : k < l.length
    · obtain ⟨b, q, rfl, hbl, hc⟩ := lw_get (hrd.below hbr) hlt
      have HF := Lib.hid (lw_fold (fun s x => (s + x) % p) 0 l k hlt)
      generalize l.getD k 0 = y at *
      generalize (l.take k).foldl (fun s x => (s + x) % p) 0 = s at *
      have HA1 := Lib.hid (fun w => HA.out s y w)
      have HF2 := Lib.hid (show (l.take (k + 1)).foldl (fun s x => (s + x) % p) 0 = (s + y) % p from HF.out)
      clear HF
      generalize (s + y) % p = z at *
      have g1 : (0 : Int) ≤ (k : Int) := by omega
      have g2 : (k : Int) < (l.length : Int) := by omega
      go_wp2_with fail
      refine (HA1.out _).mono ?_
      rintro e w1 ⟨rfl, hb1⟩
      replace hbr := below_on hbr hb1 hbr.size
      clear hc hb1
      go_wp2
      go_roundw
      case rel => exact ⟨k + 1, by omega, by go_num, by rw [HF2.out], hbr⟩
      case measure => simp [intOf]; omega
    · obtain rfl : k = l.length := by omega
      rw [List.take_length]
      go_wp2
      go_ret
      exact ⟨rfl, hbr⟩
end Go.Proofs.Ytefnagiffllhbaa

