/-
  The document's permutation: ref07.Constant, Mix, Permute.
-/
import Derived.Test.YtefnagiffllhbaaRPerA
namespace Go.Proofs.Ytefnagiffllhbaa
open Go.RowKit

set_option maxRecDepth 100000 in
set_option maxHeartbeats 400000 in
theorem rConst_any (p r i : Nat) (w : World) (hp : okP p = true) (hr : r < 8) (hi : i < 3) :
    Calls Try.prog 112 #[.int .u64 p, .int .i64 (r : Int), .int .i64 (i : Int)] w fun e w' => e = .returned (.int .u64 (consP p r i : Int)) ∧ Below w.heap.size w w' := by
  obtain ⟨hp1, hp2⟩ := okP_lt hp
  have HO := Lib.hid (fun w => by have := rValidP_any p w hp2; rw [hp] at this; exact this)
  have HC := Lib.hid (show consP p r i = mulW (3 * r + i + 1) % p from rfl)
  rw [HC.out]
  clear HC hp
  obtain ⟨k, hk⟩ : ∃ k, k = 3 * r + i + 1 := ⟨_, rfl⟩
  rw [← hk]
  have g1 : (r : Int) ≤ 7 := by omega
  have g2 : (i : Int) ≤ 2 := by omega
  have e1 : 3 * (r : Int) + (i : Int) + 1 = (k : Int) := by omega
  have e2 : IntKind.u64.wrap (k : Int) = (k : Int) := wr_nat _ (by omega)
  have e3 : IntKind.u64.wrap ((k : Int) * 11400714819323198485) = (mulW k : Int) := by
    rw [IntKind.wrap_u64]
    have : ((k : Int) * 11400714819323198485) = ((k * 11400714819323198485 : Nat) : Int) := by rw [Int.natCast_mul]; rfl
    rw [this]
    rfl
  have e4 : (mulW k : Int) % (p : Int) = ((mulW k % p : Nat) : Int) := rfl
  have e5 : (mulW k : Int).tmod (p : Int) = ((mulW k % p : Nat) : Int) := rfl
  have p1 : (0 : Int) < (p : Int) := by omega
  have p3 : ¬ (p = 0) := by omega
  clear hk hr hi
  generalize mulW k % p = m at *
  generalize mulW k = z at *
  go_enter Try.func112, Try.ntmps112
  go_wp2_with fail
  refine (HO.out _).mono ?_
  rintro e w1 ⟨rfl, hb⟩
  go_wp2
  go_ret
  exact ⟨rfl, hb⟩

def outF (f : Nat → Nat) (s : St) : Nat → St
  | 0 => ⟨0, 0, 0⟩
  | 1 => ⟨f s.a, 0, 0⟩
  | 2 => ⟨f s.a, f s.b, 0⟩
  | _ => ⟨f s.a, f s.b, f s.c⟩
theorem outF_set (f : Nat → Nat) (s : St) {i : Nat} (h : i < 3) : (outF f s i).cs.setIfInBounds i (.int .u64 (f (s.at_ i) : Int)) = (outF f s (i + 1)).cs := by
  rcases (show i = 0 ∨ i = 1 ∨ i = 2 by omega) with rfl | rfl | rfl <;> simp [outF, St.cs, St.at_]
theorem sum3 (p : Nat) (s : St) : sumP p [s.a, s.b, s.c] = mixSum p s := by
  simp [sumP, mixSum]
theorem St.lit (s : St) : (U64 [s.a, s.b, s.c]).toArray = s.cs := rfl

set_option maxRecDepth 100000 in
set_option maxHeartbeats 1000000 in
theorem rMix_any (p : Nat) (s : St) (w : World) (hp : okP p = true) (hs : s.ok) :
    Calls Try.prog 114 #[.int .u64 p, s.val] w fun e w' => e = .returned (mixP p s).val ∧ Below w.heap.size w w' := by
  have HA := Lib.hid (fun a b w => rAdd_any p a b w hp)
  have HR := Lib.hid (show mixP p s = outF (fun x => (x + mixSum p s) % p) s 3 from rfl)
  rw [HR.out]
  obtain ⟨k1, k2, k3, hb0, hsz⟩ := boxes3 w 120 120 22 #[.int .u64 (s.a : Int), .int .u64 (s.b : Int), .int .u64 (s.c : Int)] #[.int .u64 0, .int .u64 0, .int .u64 0] #[.int .u64 (s.a : Int), .int .u64 (s.b : Int), .int .u64 (s.c : Int)]
  have hlist : RWd _ [.slice (some ⟨w.heap.size + 1 + 1, 0, none⟩) 3 3] [s.a, s.b, s.c] := lw_lit (l := [s.a, s.b, s.c]) k3 (fun x hx => by
    simp at hx
    rcases hx with rfl | rfl | rfl
    · exact hs.1
    · exact hs.2.1
    · exact hs.2.2) (by simp [maxLen])
  have HSM := Lib.hid (rSum_any p _ 3 3 [s.a, s.b, s.c] _ hp hlist)
  rw [sum3] at HSM
  clear HR hlist hp hs k3
  generalize hm : mixSum p s = m at *
  clear hm
  have ev : s.val = .agg #[.int .u64 (s.a : Int), .int .u64 (s.b : Int), .int .u64 (s.c : Int)] := rfl
  rw [ev]
  clear ev
  go_enter Try.func114, Try.ntmps114
  go_wp2_with fail
  generalize ((w.alloc _).alloc _).alloc _ = w0 at k1 k2 hb0 hsz HSM ⊢
  refine HSM.out.mono ?_
  rintro e w1 ⟨rfl, hb1⟩
  replace k1 := k1.below hb1 k1.lt
  replace k2 := k2.below hb1 k2.lt
  replace hb0 := below_chain hb0 hb1
  have hs1 := hb1.size
  clear hb1 HSM
  have hal := (Below.refl w1.heap.size w1).alloc (Nat.le_refl _) (.cells #[.int .u64 0, .int .u64 0, .int .u64 0] 120)
  have k4 := Blk.new w1 120 #[.int .u64 0, .int .u64 0, .int .u64 0]
  replace k1 := k1.below hal k1.lt
  replace k2 := k2.below hal k2.lt
  replace hb0 := below_chain hb0 hal
  have hgl : w.heap.size + 1 < w1.heap.size := by omega
  clear hal
  go_upto_block 0 with fail
  generalize w1.alloc _ = w2 at k1 k2 k4 hb0 ⊢
  generalize w1.heap.size = g at k4 hgl ⊢
  clear hs1
  have k4' : Blk w2 g 120 (outF (fun x => (x + m) % p) s 0).cs := k4
  have k1' : Blk w2 w.heap.size 120 s.cs := k1
  clear k1 k4
  go_wp2_with fail
  go_loopw [7] (fun i wr => ∃ k : Nat, k ≤ 3 ∧ i = .int .i64 (k : Int) ∧ Blk wr w.heap.size 120 s.cs ∧ Blk wr (w.heap.size + 1) 120 #[.int .u64 0, .int .u64 0, .int .u64 0] ∧ Blk wr g 120 (outF (fun x => (x + m) % p) s k).cs ∧ Below w.heap.size w wr) (fun i _ => 3 - (intOf i).toNat)
  case atStart => exact ⟨0, Nat.zero_le _, rfl, k1', k2, k4', hb0⟩
  case round =>
    clear k1' k2 k4' hb0
    obtain ⟨k, hk, rfl, k1, k2, k4, hb0⟩ := hrel
    by_cases hlt : k < 3
    · have g1 : (k : Int) < 3 := by omega
      have cm := k1.cell k
      rw [St.cs_at _ hlt] at cm
      obtain ⟨y, hy⟩ : ∃ y, y = (s.at_ k + m) % p := ⟨_, rfl⟩
      have HSET := Lib.hid (show (outF (fun x => (x + m) % p) s k).cs.setIfInBounds k (.int .u64 (y : Int)) = (outF (fun x => (x + m) % p) s (k + 1)).cs from by rw [hy]; exact outF_set (fun x => (x + m) % p) s hlt)
      have HA1 := Lib.hid (fun w => HA.out (s.at_ k) m w)
      rw [← hy] at HA1
      clear hy
      have cz := k4.cell k
      rw [St.cs_at _ hlt] at cz
      generalize (outF (fun x => (x + m) % p) s k).at_ k = old at cz
      generalize s.at_ k = x at *
      go_wp2_with fail
      refine (HA1.out _).mono ?_
      rintro e w3 ⟨rfl, hb3⟩
      have cz3 : w3.cell? ⟨g, k, none⟩ = some (.int .u64 (old : Int)) := (Below.cell hb3 (World.block_lt_of_cell? _ _ cz)).trans cz
      replace k1 := k1.below hb3 k1.lt
      replace k2 := k2.below hb3 k2.lt
      replace k4 := k4.below hb3 k4.lt
      replace hb0 := below_chain hb0 hb3
      have f4 := k4.frozen k
      clear cz cm hb3
      go_wp2_with fail
      have hg : w3.grownBy (w3.setCell ⟨g, k, none⟩ (.int .u64 (y : Int))) (some g) := grown_setCell' (p := ⟨g, k, none⟩) (grown_refl' w3 _) (.inl rfl) _
      replace k4 := k4.set_ k (.int .u64 (y : Int))
      rw [HSET.out] at k4
      replace k1 := k1.grown hg (fun e => by have := Option.some.inj e; omega)
      replace k2 := k2.grown hg (fun e => by have := Option.some.inj e; omega)
      replace hb0 := hb0.trans (below_of_only hg hb0.size (by omega))
      clear hg f4 cz3
      generalize w3.setCell _ _ = Wf at k1 k2 k4 hb0 ⊢
      go_roundw
      case rel => exact ⟨k + 1, by omega, by go_num, k1, k2, k4, hb0⟩
      case measure => simp [intOf]; omega
    · obtain rfl : k = 3 := by omega
      obtain ⟨q, hq⟩ : ∃ q, q = outF (fun x => (x + m) % p) s 3 := ⟨_, rfl⟩
      rw [← hq] at k4
      have HQ := Lib.hid hq
      clear hq
      have k4' : Blk wr g 120 #[.int .u64 (q.a : Int), .int .u64 (q.b : Int), .int .u64 (q.c : Int)] := k4
      have c4 := k4'.cell
      have c2 := k2.cell
      have f2 := k2.frozen
      go_wp2_with fail
      have hg := set3_grown (w := wr) (g := w.heap.size + 1) (.int .u64 (q.a : Int)) (.int .u64 (q.b : Int)) (.int .u64 (q.c : Int))
      have kz := set3_blk k2 (.int .u64 (q.a : Int)) (.int .u64 (q.b : Int)) (.int .u64 (q.c : Int))
      clear c4 c2 f2 k2
      generalize ((World.setCell wr _ _).setCell _ _).setCell _ _ = Wf at hg kz ⊢
      have cz := kz.cell
      have hs := hb0.size
      exact bodyPost_ret (v := .agg #[.int .u64 (q.a : Int), .int .u64 (q.b : Int), .int .u64 (q.c : Int)]) (by simp [results, Try.results114, go_sem, cz]) rfl ⟨by rw [← HQ.out]; rfl, hb0.trans (below_of_only hg hs (by omega))⟩

theorem St.ok_of_lt {s : St} {p : Nat} (hp : p < 18446744073709551616) (h1 : s.a < p) (h2 : s.b < p) (h3 : s.c < p) : s.ok := ⟨by omega, by omega, by omega⟩
theorem mixP_ok {p : Nat} (h1 : 0 < p) (h2 : p < 18446744073709551616) (s : St) : (mixP p s).ok := St.ok_of_lt h2 (Nat.mod_lt _ h1) (Nat.mod_lt _ h1) (Nat.mod_lt _ h1)
theorem sboxP_lt {p : Nat} (h1 : 0 < p) (r i x : Nat) : sboxP p r i x < p := Nat.mod_lt _ h1
end Go.Proofs.Ytefnagiffllhbaa

