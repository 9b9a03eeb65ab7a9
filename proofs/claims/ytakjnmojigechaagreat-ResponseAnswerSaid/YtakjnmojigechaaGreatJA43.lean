/- A part of the proof: PoN, FftM, FftN, FftO, FftP, FftQ, FftR, FftS, PoL, PoM, PoO, PoK, ReG, ReU, ReT, ReK, ReB, FldP, FldQ, PolE, PlA, PlB, PlL, ReF, ReH, ReI, AwA, RFsG, LwA. No condition. -/
import Derived.Test.YtakjnmojigechaaGreatJA35
import Derived.Test.YtakjnmojigechaaGreatJA16
import Derived.Test.YtakjnmojigechaaGreatJA33
import Derived.Test.YtakjnmojigechaaGreatJA26
import Derived.Test.YtakjnmojigechaaGreatJA27
import Derived.Test.YtakjnmojigechaaGreatJA29
import Derived.Test.YtakjnmojigechaaGreatJA34
import Derived.Test.YtakjnmojigechaaGreatJA28
import Derived.Test.YtakjnmojigechaaGreatJA37
import Derived.Test.YtakjnmojigechaaGreatJA38
import Derived.Test.YtakjnmojigechaaGreatJA42
import Derived.Test.YtakjnmojigechaaGreatJA25
import Derived.Test.YtakjnmojigechaaGreatJA31
import Derived.Test.YtakjnmojigechaaGreatJA39
import Derived.Laws.OwnMore
import Derived.Carry
import Derived.Deep.AppendLies
import Derived.Maps.OwnSet
import Derived.Maps.Views
import Derived.Test.YtakjnmojigechaaGreatJA36
import Derived.Test.YtakjnmojigechaaGreatJA24

namespace Go.Proofs.YtakjnmojigechaaGreat
open Go.RowKit
set_option maxRecDepth 100000 in
set_option maxHeartbeats 1000000 in
theorem rPad_own (A : Option Addr) (n c m : Nat) (l : List Nat) (w : World) (hl : RWd w [.slice A n c] l) (hn : n ≤ 100000) (hm : m ≤ 100000) :
    Calls Tryz.prog 105 #[.slice A n c, .int .i64 (m : Int)] w fun e w' => ∃ v, e = .returned v ∧ w'.ownsRow w.heap.size 22 1 v (padP l m).length (U64 (padP l m)) ∧ Below w.heap.size w w' := by
  obtain ⟨rfl, h1, h2, hlt, hrd⟩ := lw_at hl
  have hal := (Below.refl w.heap.size w).alloc (Nat.le_refl _) (.cells #[] 22)
  have HS := Lib.hid (show ∀ k, l ++ List.replicate k 0 ++ [0] = l ++ List.replicate (k + 1) 0 from fun k => by rw [List.append_assoc, List.replicate_succ'])
  have HP := Lib.hid (show padP l m = l ++ List.replicate (m - l.length) 0 from rfl)
  rw [HP.out]
  obtain ⟨f, hf⟩ : ∃ f, f = fun k => l ++ List.replicate k 0 := ⟨_, rfl⟩
  have H0 := Lib.hid (show f 0 = l by rw [hf]; simp)
  have HF := Lib.hid (show ∀ k, f k ++ [0] = f (k + 1) from fun k => by rw [hf]; exact HS.out k)
  rw [show l ++ List.replicate (m - l.length) 0 = f (m - l.length) by rw [hf]]
  clear HS HP hf hlt h1 h2 hl
  go_enter Tryz.func105, Tryz.ntmps105
  go_wp2_with (at_builtin; refine wpl_append rfl _ _ rfl el_w rfl (own_empty w 22 (Nat.le_refl _)) rfl (hrd.alloc _) (one_U64 l) (by omega) (by simp) ?_)
  intro v1 w1 hown hgrow hblk
  have hB := lw_grow (own_empty w 22 (Nat.le_refl _)) hgrow (by simp)
  replace hB := hal.trans hB
  obtain ⟨t, ht⟩ : ∃ t, t = l.length := ⟨_, rfl⟩
  have hown1 : w1.ownsRow w.heap.size 22 1 v1 t (U64 (f 0)) := by
    rw [H0.out, ht]; simpa using hown
  have HT := Lib.hid ht
  clear hgrow hblk hown hal ht hrd
  go_wp2_with fail
  go_loopw [5] (fun v wr => ∃ k s : Nat, Hid (s = t + k ∧ (k = 0 ∨ s ≤ m)) ∧ s ≤ 200000 ∧ wr.ownsRow w.heap.size 22 1 v s (U64 (f k)) ∧ Below w.heap.size w wr) (fun v _ => match v with | .slice _ n _ => m - n | _ => 0)
  case atStart => exact ⟨0, t, Lib.hid ⟨rfl, .inl rfl⟩, by have := HT.out; omega, hown1, hB⟩
  case round =>
    clear hown1 hB
    obtain ⟨k, s, HK, hs, hown, hb⟩ := hrel
    obtain ⟨A1, c1, rfl, -⟩ := own_form hown
    by_cases hlt : s < m
    · have g1 : (s : Int) < (m : Int) := by omega
      have HF1 := Lib.hid (HF.out k)
      go_wp2_with (at_builtin; refine wpl_append rfl _ _ rfl el_w rfl (hown.alloc _) rfl (rd_one _ _ _) (one_U64 [0]) (by omega) (by simp; have := hb.size; omega) ?_)
      intro v' wn hown' hgrow hblk
      have hal := (Below.refl wr.heap.size wr).alloc (Nat.le_refl _) (.cells #[.int .u64 (0 : Int)] 22)
      have hB := lw_grow (hown.alloc _) hgrow (by simp; have := hb.size; omega)
      replace hb := (below_on hb hal hb.size).trans hB
      replace hown : wn.ownsRow w.heap.size 22 1 v' (s + 1) (U64 (f (k + 1))) := lw_app (b := [0]) hown' HF1.out
      clear hown' hgrow hblk hal hB
      obtain ⟨A2, c2, rfl, -⟩ := own_form hown
      go_wp2
      go_roundw
      case rel => exact ⟨k + 1, s + 1, Lib.hid (by have := HK.out; omega), by omega, hown, hb⟩
      case measure => simp; omega
    · have g1 : ¬ ((s : Int) < (m : Int)) := by omega
      have HE := Lib.hid (show f k = f (m - l.length) by
        have h := HK.out
        have h2 := HT.out
        rcases h.2 with h3 | h3
        · rw [h3, show m - l.length = 0 by omega]
        · rw [show k = m - l.length by omega])
      rw [HE.out] at hown
      have HSL := Lib.hid (show (f (m - l.length)).length = s by
        have := hown.1
        simpa [U64] using this)
      go_wp2
      go_ret
      exact ⟨_, rfl, by rw [HSL.out]; exact hown, hb⟩
set_option maxRecDepth 100000 in
set_option maxHeartbeats 1000000 in
theorem rRow25_own (L : LayR) (A B : Option Addr) (n c m d : Nat) (msg masks : List Nat) (w : World) (hL : LayOk L) (hl : RWd w [.slice A n c] msg) (hk : RWd w [.slice B m d] masks) (hn : n = L.block) (hm : m ≤ 30000) :
    Calls Tryz.prog 98 #[.agg (layCs L), .slice A n c, .slice B m d] w fun e w' => ∃ v, e = .returned v ∧ w'.ownsRow w.heap.size 22 1 v (rowR L msg masks).length (U64 (rowR L msg masks)) ∧ Below w.heap.size w w' := by
  obtain ⟨hp1, hp2⟩ := okP_lt hL.p
  have hb2 := hL.b2
  have hk1 : L.k ≤ 400 := by have := hL.k; have := hL.q2; omega
  obtain ⟨hlen, -⟩ := layLen hL
  have hml := (lw_at hk).1
  have hnl := (lw_at hl).1
  subst hn
  have HI := Lib.hid (fun w' (hb : Below w.heap.size w w') => rInterpolate_any L.p 1 L.block A c msg w' hL.p (kept_RWd _ _ _ _ hb hl) hlen (by rw [Nat.mod_eq_of_lt (by omega)]; decide))
  have HZ := Lib.hid (fun w => rZero_any L w hL)
  have HM := Lib.hid (fun A n c w' (hb : Below w.heap.size w w') ha hn => rMulP_any L.p A B n c m d (zeroP L.p L.block) masks w' hL.p ha (kept_RWd _ _ _ _ hb hk) hn (by omega))
  have HA := Lib.hid (fun A B n c m d a b w ha hb hn hm => rAddP_any L.p A B n c m d a b w hL.p ha hb hn hm)
  have HP := Lib.hid (fun A n c l w hl hn => rPad_own A n c L.k l w hl hn (by omega))
  have HIL := Lib.hid (show ∀ x ∈ (List.range L.block).map (intR L.p msg 1), x < 18446744073709551616 from fun x hx => by
    obtain ⟨i, -, rfl⟩ := List.mem_map.1 hx
    exact Nat.lt_trans (intR_lt (by omega) _ _ _) hp2)
  have HR := Lib.hid (show rowR L msg masks = padP (addP L.p ((List.range L.block).map (intR L.p msg 1)) (mulP L.p (zeroP L.p L.block) masks)) L.k by rw [rowR, ← hnl])
  rw [HR.out]
  have h1 := Lib.hid (show (mulP L.p (zeroP L.p L.block) masks).length ≤ 40000 by have := mulP_len L.p (zeroP L.p L.block) masks; rw [zeroP_len] at this; omega)
  have h2 := Lib.hid (show (addP L.p ((List.range L.block).map (intR L.p msg 1)) (mulP L.p (zeroP L.p L.block) masks)).length ≤ 40000 by have := addP_len L.p ((List.range L.block).map (intR L.p msg 1)) (mulP L.p (zeroP L.p L.block) masks); rw [List.length_map, List.length_range] at this; have := h1.out; omega)
  have h3 := Lib.hid (zeroP_len L.p L.block)
  have h4 : L.block ≤ 256 := hb2
  generalize mulP L.p (zeroP L.p L.block) masks = M at *
  generalize (List.range L.block).map (intR L.p msg 1) = I at *
  clear HR hL hl hk hlen hml hnl hp1 hp2 hk1 hb2 hm
  unfold layCs at *
  have kl := Blk.new w 39 #[.int .u64 (L.p : Int), .int .i64 (L.block : Int), .int .i64 (L.queries : Int), .int .i64 (L.k : Int), .int .i64 (L.n : Int), .int .i64 (L.secret : Int), .int .i64 (L.rows : Int), .int .i64 (L.a : Int), .int .i64 (L.b : Int), .int .i64 (L.b : Int), .int .i64 (L.b : Int)]
  have hb0 : Below w.heap.size w (w.alloc (.cells #[.int .u64 (L.p : Int), .int .i64 (L.block : Int), .int .i64 (L.queries : Int), .int .i64 (L.k : Int), .int .i64 (L.n : Int), .int .i64 (L.secret : Int), .int .i64 (L.rows : Int), .int .i64 (L.a : Int), .int .i64 (L.b : Int), .int .i64 (L.b : Int), .int .i64 (L.b : Int)] 39)) := (Below.refl _ _).alloc (Nat.le_refl _) _
  go_enter Tryz.func98, Tryz.ntmps98
  go_wp2_with fail
  generalize w.alloc _ = w1 at kl hb0 ⊢
  refine (HI.out _ hb0).mono ?_
  rintro e w2 ⟨v1, rfl, hown, hbx⟩
  replace kl := kl.below hbx kl.lt
  replace hb0 := below_chain hb0 hbx
  clear hbx
  obtain ⟨A1, c1, rfl, -⟩ := own_form hown
  have hI := lw_own hown HIL.out
  clear hown HIL HI
  have cl := kl.cell
  have ll := kl.lt
  go_upto_region 2 with fail
  refine wpO_begin (Later) [6, 8, 9, 12] [0, 1, 2, 3, 4, 5, 7, 10, 11, 6, 8, 9, 12, 13] (by kernel_rfl) (by kernel_rfl) ?_
  refine wpO_startK (later_moves) ?_
  intro Wc HWc hacc
  have hbW : Below w2.heap.size w2 Wc := by rw [HWc.out]; exact (Below.refl _ _).drew
  replace hb0 := below_chain hb0 hbW
  replace hI := kept_RWd _ _ _ _ hbW hI
  repeat (first | (refine wpO_skip (later_moves) rfl rfl (fun _ _ _ h => h) ?_ ; simp only [Act.put, List.setIfInBounds_toArray, List.set_cons_zero, List.set_cons_succ]) | (refine wpO_light (v := ?_) (later_moves) rfl rfl (fun _ _ _ h => h) ?_ ?_ ; rotate_left ; (· (intro w' hR ; (first | have hcells := later_cellsD ((later_moves).trans _ _ _ hacc hR) | skip) ; go_simp ; try with_reducible rfl)) ; simp only [Act.put, List.setIfInBounds_toArray, List.set_cons_zero, List.set_cons_succ]))
  refine wpO_call (later_moves) rfl rfl rfl (fun _ => by go_simp <;> rfl) ((HZ.out _).mono ?_)
  rintro e w3 ⟨v3, rfl, hZ, hb3⟩
  refine ⟨_, rfl, hb3, ?_⟩
  replace hacc := (later_moves).trans _ _ _ hacc (hb3)
  simp only [Act.put, List.setIfInBounds_toArray, List.set_cons_zero, List.set_cons_succ]
  replace hb0 := below_chain hb0 hb3
  replace hI := kept_RWd _ _ _ _ hb3 hI
  obtain ⟨A3, c3, rfl⟩ := rwd_form hZ
  repeat (first | (refine wpO_skip (later_moves) rfl rfl (fun _ _ _ h => h) ?_ ; simp only [Act.put, List.setIfInBounds_toArray, List.set_cons_zero, List.set_cons_succ]) | (refine wpO_light (v := ?_) (later_moves) rfl rfl (fun _ _ _ h => h) ?_ ?_ ; rotate_left ; (· (intro w' hR ; (first | have hcells := later_cellsD ((later_moves).trans _ _ _ hacc hR) | skip) ; go_simp ; try with_reducible rfl)) ; simp only [Act.put, List.setIfInBounds_toArray, List.set_cons_zero, List.set_cons_succ]))
  refine wpO_call (later_moves) rfl rfl rfl (fun _ => by go_simp <;> rfl) ((HM.out _ _ _ _ hb0 hZ (by rw [h3.out]; omega)).mono ?_)
  rintro e w4 ⟨v4, rfl, hM, hb4⟩
  refine ⟨_, rfl, hb4, ?_⟩
  replace hacc := (later_moves).trans _ _ _ hacc (hb4)
  simp only [Act.put, List.setIfInBounds_toArray, List.set_cons_zero, List.set_cons_succ]
  replace hb0 := below_chain hb0 hb4
  replace hI := kept_RWd _ _ _ _ hb4 hI
  obtain ⟨A4, c4, rfl⟩ := rwd_form hM
  repeat (first | (refine wpO_skip (later_moves) rfl rfl (fun _ _ _ h => h) ?_ ; simp only [Act.put, List.setIfInBounds_toArray, List.set_cons_zero, List.set_cons_succ]) | (refine wpO_light (v := ?_) (later_moves) rfl rfl (fun _ _ _ h => h) ?_ ?_ ; rotate_left ; (· (intro w' hR ; (first | have hcells := later_cellsD ((later_moves).trans _ _ _ hacc hR) | skip) ; go_simp ; try with_reducible rfl)) ; simp only [Act.put, List.setIfInBounds_toArray, List.set_cons_zero, List.set_cons_succ]))
  refine wpO_call (later_moves) rfl rfl rfl (fun _ => by go_simp <;> rfl) ((HA.out _ _ _ _ _ _ _ _ _ hI hM (by omega) (by have := h1.out; omega)).mono ?_)
  rintro e w5 ⟨v5, rfl, hA, hb5⟩
  refine ⟨_, rfl, hb5, ?_⟩
  replace hacc := (later_moves).trans _ _ _ hacc (hb5)
  simp only [Act.put, List.setIfInBounds_toArray, List.set_cons_zero, List.set_cons_succ]
  replace hb0 := below_chain hb0 hb5
  obtain ⟨A5, c5, rfl⟩ := rwd_form hA
  repeat (first | (refine wpO_skip (later_moves) rfl rfl (fun _ _ _ h => h) ?_ ; simp only [Act.put, List.setIfInBounds_toArray, List.set_cons_zero, List.set_cons_succ]) | (refine wpO_light (v := ?_) (later_moves) rfl rfl (fun _ _ _ h => h) ?_ ?_ ; rotate_left ; (· (intro w' hR ; (first | have hcells := later_cellsD ((later_moves).trans _ _ _ hacc hR) | skip) ; go_simp ; try with_reducible rfl)) ; simp only [Act.put, List.setIfInBounds_toArray, List.set_cons_zero, List.set_cons_succ]))
  have hs5 := hb0.size
  refine wpO_call (later_moves) rfl rfl rfl (fun _ => by go_simp <;> rfl) ((HP.out _ _ _ _ _ hA (by have := h2.out; omega)).mono ?_)
  rintro e w6 ⟨v6, rfl, hP, hb6⟩
  refine ⟨_, rfl, hb6, ?_⟩
  replace hacc := (later_moves).trans _ _ _ hacc (hb6)
  simp only [Act.put, List.setIfInBounds_toArray, List.set_cons_zero, List.set_cons_succ]
  replace hb0 := below_chain hb0 hb6
  repeat (first | (refine wpO_skip (later_moves) rfl rfl (fun _ _ _ h => h) ?_ ; simp only [Act.put, List.setIfInBounds_toArray, List.set_cons_zero, List.set_cons_succ]) | (refine wpO_light (v := ?_) (later_moves) rfl rfl (fun _ _ _ h => h) ?_ ?_ ; rotate_left ; (· (intro w' hR ; (first | have hcells := later_cellsD ((later_moves).trans _ _ _ hacc hR) | skip) ; go_simp ; try with_reducible rfl)) ; simp only [Act.put, List.setIfInBounds_toArray, List.set_cons_zero, List.set_cons_succ]))
  refine wpO_done ?_
  go_wp2
  go_ret
  exact ⟨_, rfl, own_base hP hs5, hb0⟩
theorem padP_lt {l : List Nat} {B n : Nat} (hB : 0 < B) (h : ∀ x ∈ l, x < B) : ∀ x ∈ padP l n, x < B := fun x hx => by
  rcases List.mem_append.1 hx with h' | h'
  · exact h x h'
  · rw [(List.mem_replicate.1 h').2]; exact hB
theorem mulP_lt {p : Nat} (hp : 0 < p) {a b : List Nat} {x : Nat} (h : x ∈ mulP p a b) : x < p := by
  unfold mulP at h
  cases e : a.length with
  | zero => rw [e] at h; cases h
  | succ k => rw [e, mulK] at h; exact trimP_lt hp h
end Go.Proofs.YtakjnmojigechaaGreat
namespace Go.Proofs.YtakjnmojigechaaGreat
def Cg (p : Nat) (x y : Int) : Prop := (p : Int) ∣ x - y
theorem Cg.rfl' {p : Nat} {x : Int} : Cg p x x := ⟨0, by omega⟩
theorem Cg.of_eq {p : Nat} {x y : Int} (h : x = y) : Cg p x y := h ▸ Cg.rfl'
theorem Cg.symm {p : Nat} {x y : Int} (h : Cg p x y) : Cg p y x := by
  obtain ⟨c, hc⟩ := h
  exact ⟨-c, by rw [Int.mul_neg, ← hc]; omega⟩
theorem Cg.trans {p : Nat} {x y z : Int} (h : Cg p x y) (h2 : Cg p y z) : Cg p x z := by
  obtain ⟨c, hc⟩ := h
  obtain ⟨d, hd⟩ := h2
  exact ⟨c + d, by rw [Int.mul_add, ← hc, ← hd]; omega⟩
theorem Cg.add {p : Nat} {x y u v : Int} (h : Cg p x y) (h2 : Cg p u v) : Cg p (x + u) (y + v) := by
  obtain ⟨c, hc⟩ := h
  obtain ⟨d, hd⟩ := h2
  exact ⟨c + d, by rw [Int.mul_add, ← hc, ← hd]; omega⟩
theorem Cg.mul {p : Nat} {x y u v : Int} (h : Cg p x y) (h2 : Cg p u v) : Cg p (x * u) (y * v) := by
  obtain ⟨c, hc⟩ := h
  obtain ⟨d, hd⟩ := h2
  refine ⟨c * u + y * d, ?_⟩
  have e : x * u - y * v = (x - y) * u + y * (u - v) := by rw [Int.sub_mul, Int.mul_sub]; omega
  rw [e, hc, hd, Int.mul_add, Int.mul_assoc, ← Int.mul_assoc y, Int.mul_comm y (p : Int), Int.mul_assoc]
theorem Cg.neg {p : Nat} {x y : Int} (h : Cg p x y) : Cg p (-x) (-y) := by
  obtain ⟨c, hc⟩ := h
  exact ⟨-c, by rw [Int.mul_neg, ← hc]; omega⟩
theorem Cg.mod {p : Nat} (x : Nat) : Cg p ((x % p : Nat) : Int) (x : Int) := by
  refine ⟨-((x / p : Nat) : Int), ?_⟩
  have h := Nat.div_add_mod x p
  have h2 : ((p * (x / p) + x % p : Nat) : Int) = (x : Int) := by rw [h]
  rw [Int.natCast_add, Int.natCast_mul] at h2
  rw [Int.mul_neg]
  omega
theorem Cg.pow {p : Nat} {x y : Int} (h : Cg p x y) (k : Nat) : Cg p (x ^ k) (y ^ k) := by
  induction k with
  | zero => exact Cg.of_eq (by rw [Int.pow_zero, Int.pow_zero])
  | succ k ih => rw [Int.pow_succ, Int.pow_succ]; exact ih.mul h
theorem Cg.eq {p a b : Nat} (h : Cg p (a : Int) (b : Int)) (ha : a < p) (hb : b < p) : a = b := by
  obtain ⟨c, hc⟩ := h
  rcases Int.lt_trichotomy c 0 with h1 | h1 | h1
  · have : (p : Int) * c ≤ (p : Int) * (-1) := Int.mul_le_mul_of_nonneg_left (by omega) (by omega)
    omega
  · subst h1; omega
  · have : (p : Int) * 1 ≤ (p : Int) * c := Int.mul_le_mul_of_nonneg_left (by omega) (by omega)
    omega
def evI (a : Nat → Int) (x : Int) : Nat → Int
  | 0 => 0
  | n + 1 => evI a x n + a n * x ^ n
theorem evI_cg {p : Nat} {a b : Nat → Int} {x y : Int} (h : ∀ i, Cg p (a i) (b i)) (hx : Cg p x y) : ∀ n, Cg p (evI a x n) (evI b y n)
  | 0 => Cg.rfl'
  | n + 1 => (evI_cg h hx n).add ((h n).mul (hx.pow n))
theorem evI_split (a : Nat → Int) (x : Int) : ∀ n, evI a x (2 * n) = evI (fun i => a (2 * i)) (x * x) n + x * evI (fun i => a (2 * i + 1)) (x * x) n
  | 0 => by simp [evI]
  | n + 1 => by
    have e : (x * x) ^ n = x ^ (2 * n) := by rw [Int.pow_mul]; congr 1; rw [Int.pow_succ, Int.pow_succ, Int.pow_zero, Int.one_mul]
    show evI a x (2 * n) + a (2 * n) * x ^ (2 * n) + a (2 * n + 1) * x ^ (2 * n + 1) = _
    rw [evI_split a x n]
    show _ = (evI (fun i => a (2 * i)) (x * x) n + a (2 * n) * (x * x) ^ n) + x * (evI (fun i => a (2 * i + 1)) (x * x) n + a (2 * n + 1) * (x * x) ^ n)
    rw [e, Int.pow_succ]
    grind
theorem powI_cg (p w : Nat) : ∀ k, Cg p (powI p w k : Int) ((w : Int) ^ k)
  | 0 => Cg.rfl'
  | k + 1 => by
    show Cg p ((powI p w k * w % p : Nat) : Int) _
    refine (Cg.mod _).trans ?_
    rw [Int.natCast_mul, Int.pow_succ]
    exact (powI_cg p w k).mul Cg.rfl'
theorem negP_cg (p a : Nat) (hp : 0 < p) : Cg p (negP p a : Int) (-(a : Int)) := by
  have h1 : Cg p ((a % p : Nat) : Int) (a : Int) := Cg.mod a
  refine Cg.trans ?_ h1.neg
  have h := Nat.mod_lt a hp
  unfold negP
  split
  · rename_i h0
    rw [h0]
    exact Cg.rfl'
  · exact ⟨1, by omega⟩
theorem fftP_ev (p : Nat) (hp : 0 < p) : ∀ (j : Nat) (a : Nat → Nat) (w : Nat), (j = 0 ∨ Cg p ((w : Int) ^ (2 ^ (j - 1))) (-1)) → ∀ k, k < 2 ^ j → Cg p (fftP p j a w k : Int) (evI (fun i => (a i : Int)) ((w : Int) ^ k) (2 ^ j))
  | 0, a, w, _, k, hk => by
    obtain rfl : k = 0 := by omega
    show Cg p (a 0 : Int) _
    exact Cg.of_eq (by simp [evI])
  | j + 1, a, w, hw, k, hk => by
    have hw1 : Cg p ((w : Int) ^ (2 ^ j)) (-1) := by rcases hw with h | h; · omega
                                                     · exact h
    have hw2 : j = 0 ∨ Cg p (((w * w % p : Nat) : Int) ^ (2 ^ (j - 1))) (-1) := by
      rcases Nat.eq_zero_or_pos j with h | h
      · exact Or.inl h
      · refine Or.inr (((Cg.mod (p := p) (w * w)).pow _).trans ?_)
        have e : ((w * w : Nat) : Int) ^ (2 ^ (j - 1)) = (w : Int) ^ (2 ^ j) := by
          rw [Int.natCast_mul, show 2 ^ j = 2 * 2 ^ (j - 1) by rw [Nat.mul_comm, ← Nat.pow_succ]; congr 1; omega, Int.pow_mul]
          congr 1
          rw [Int.pow_succ, Int.pow_succ, Int.pow_zero, Int.one_mul]
        rw [e]
        exact hw1
    have key : ∀ i, i < 2 ^ j → ∀ x : Int, Cg p (x * x) (((w : Int) ^ i) * ((w : Int) ^ i)) → Cg p ((fftP p j (fun i => a (2 * i)) (w * w % p) i : Int) + x * (fftP p j (fun i => a (2 * i + 1)) (w * w % p) i : Int)) (evI (fun i => (a i : Int)) x (2 ^ (j + 1))) := by
      intro i hi x hx
      have e0 : Cg p (((w * w % p : Nat) : Int) ^ i) (x * x) := by
        refine ((Cg.mod (p := p) (w * w)).pow _).trans (Cg.trans (Cg.of_eq ?_) hx.symm)
        rw [Int.natCast_mul, Int.mul_pow]
      have h1 := (fftP_ev p hp j (fun i => a (2 * i)) (w * w % p) hw2 i hi).trans (evI_cg (fun _ => Cg.rfl') e0 _)
      have h2 := (fftP_ev p hp j (fun i => a (2 * i + 1)) (w * w % p) hw2 i hi).trans (evI_cg (fun _ => Cg.rfl') e0 _)
      rw [show 2 ^ (j + 1) = 2 * 2 ^ j by rw [Nat.pow_succ, Nat.mul_comm], evI_split]
      exact h1.add (Cg.rfl'.mul h2)
    rw [fftP]
    simp only []
    split
    · rename_i hlt
      refine (Cg.mod _).trans (Cg.trans ?_ (key k hlt ((w : Int) ^ k) Cg.rfl'))
      rw [Int.natCast_add]
      refine Cg.rfl'.add ((Cg.mod _).trans ?_)
      rw [Int.natCast_mul]
      exact (powI_cg p w k).mul Cg.rfl'
    · rename_i hge
      obtain ⟨i, rfl⟩ : ∃ i, k = 2 ^ j + i := ⟨k - 2 ^ j, by omega⟩
      have hi : i < 2 ^ j := by rw [Nat.pow_succ] at hk; omega
      rw [Nat.add_sub_cancel_left]
      have ex : Cg p ((w : Int) ^ (2 ^ j + i)) (-((w : Int) ^ i)) := by
        rw [Int.pow_add]
        refine (hw1.mul Cg.rfl').trans (Cg.of_eq (by omega))
      refine (Cg.mod _).trans (Cg.trans ?_ (key i hi ((w : Int) ^ (2 ^ j + i)) ?_))
      · rw [Int.natCast_add]
        refine Cg.rfl'.add ((negP_cg p _ hp).trans ?_)
        refine ((Cg.mod _).neg).trans ?_
        rw [Int.natCast_mul]
        refine (((powI_cg p w i).mul Cg.rfl').neg).trans ?_
        rw [← Int.neg_mul]
        exact ex.symm.mul Cg.rfl'
      · refine (ex.mul ex).trans (Cg.of_eq ?_)
        rw [Int.neg_mul_neg]
end Go.Proofs.YtakjnmojigechaaGreat
namespace Go.Proofs.YtakjnmojigechaaGreat
def sqm (p : Nat) : Nat → Nat → Nat → Nat
  | 0, _, _ => 1
  | f + 1, b, e => if e % 2 = 1 then b * sqm p f (b * b % p) (e / 2) % p else sqm p f (b * b % p) (e / 2)
theorem sqm_cg (p : Nat) : ∀ (f b e : Nat), e < 2 ^ f → Cg p (sqm p f b e : Int) ((b : Int) ^ e)
  | 0, b, e, h => by
    obtain rfl : e = 0 := by omega
    exact Cg.of_eq (by simp [sqm])
  | f + 1, b, e, h => by
    have h2 : e / 2 < 2 ^ f := by rw [Nat.pow_succ] at h; omega
    have ih := (sqm_cg p f (b * b % p) (e / 2) h2).trans ((Cg.mod (p := p) (b * b)).pow _)
    have e1 : ((b * b : Nat) : Int) ^ (e / 2) = (b : Int) ^ (2 * (e / 2)) := by
      rw [Int.natCast_mul, Int.pow_mul]
      congr 1
      rw [Int.pow_succ, Int.pow_succ, Int.pow_zero, Int.one_mul]
    rw [e1] at ih
    rw [sqm]
    split
    · rename_i h1
      refine (Cg.mod _).trans ?_
      rw [Int.natCast_mul, show (b : Int) ^ e = (b : Int) * (b : Int) ^ (2 * (e / 2)) by rw [Int.mul_comm, ← Int.pow_succ]; congr 1; omega]
      exact Cg.rfl'.mul ih
    · rw [show 2 * (e / 2) = e by omega] at ih
      exact ih
theorem gen_half {p : Nat} (h : okP p = true) : sqm p 64 (rowOf p).1 ((p - 1) / 2) = p - 1 ∧ (p - 1) % 2 = 0 ∧ (p - 1) / 2 < 2 ^ 64 := by
  rcases okP_cases h with rfl | rfl | rfl | rfl | rfl | rfl | rfl <;> decide +kernel
theorem gen_neg {p : Nat} (h : okP p = true) : Cg p (((rowOf p).1 : Int) ^ ((p - 1) / 2)) (-1) := by
  obtain ⟨h1, -, h3⟩ := gen_half h
  have h4 := sqm_cg p 64 (rowOf p).1 ((p - 1) / 2) h3
  rw [h1] at h4
  refine h4.symm.trans ⟨1, ?_⟩
  have := (okP_lt h).1
  omega
theorem root_half {p n j : Nat} (h : okP p = true) (hn : LenOk p n) (hj : n = 2 ^ j) : j = 0 ∨ Cg p ((rootP p n : Int) ^ (2 ^ (j - 1))) (-1) := by
  rcases Nat.eq_zero_or_pos j with h0 | h0
  · exact Or.inl h0
  · right
    refine ((Cg.mod (p := p) _).pow _).trans (Cg.trans (Cg.of_eq ?_) (gen_neg h))
    rw [Int.natCast_pow, ← Int.pow_mul]
    congr 1
    have e : n = 2 * 2 ^ (j - 1) := by rw [hj, Nat.mul_comm, ← Nat.pow_succ]; congr 1; omega
    have hd := hn.dvd
    have hpos := hn.pos
    obtain ⟨q, hq⟩ : ∃ q, p - 1 = n * q := ⟨(p - 1) / n, by have := Nat.div_add_mod (p - 1) n; omega⟩
    rw [hq, Nat.mul_div_cancel_left _ (by omega), e, Nat.mul_assoc, Nat.mul_div_cancel_left _ (by omega), Nat.mul_comm]
end Go.Proofs.YtakjnmojigechaaGreat
namespace Go.Proofs.YtakjnmojigechaaGreat
theorem two_fermat {p : Nat} (h : okP p = true) : sqm p 64 2 (p - 1) = 1 ∧ sqm p 64 (rowOf p).1 (p - 1) = 1 ∧ p - 1 < 2 ^ 64 := by
  rcases okP_cases h with rfl | rfl | rfl | rfl | rfl | rfl | rfl <;> decide +kernel
theorem two_one {p : Nat} (h : okP p = true) : Cg p ((2 : Int) ^ (p - 1)) 1 := by
  obtain ⟨h1, -, h3⟩ := two_fermat h
  have h4 := sqm_cg p 64 2 (p - 1) h3
  rw [h1] at h4
  exact h4.symm
theorem gen_one {p : Nat} (h : okP p = true) : Cg p (((rowOf p).1 : Int) ^ (p - 1)) 1 := by
  obtain ⟨-, h1, h3⟩ := two_fermat h
  have h4 := sqm_cg p 64 (rowOf p).1 (p - 1) h3
  rw [h1] at h4
  exact h4.symm
theorem inv_two {p n j : Nat} (h : okP p = true) (hj : n = 2 ^ j) : Cg p ((n : Int) * ((n ^ (p - 2) % p : Nat) : Int)) 1 := by
  have hp := okP_lt h
  refine (Cg.rfl'.mul (Cg.mod _)).trans ?_
  have e : (n : Int) * ((n ^ (p - 2) : Nat) : Int) = ((2 : Int) ^ (p - 1)) ^ j := by
    rw [Int.natCast_pow, hj, Int.natCast_pow, Int.mul_comm, ← Int.pow_succ, ← Int.pow_mul, ← Int.pow_mul, Nat.succ_eq_add_one, show p - 2 + 1 = p - 1 by omega, Nat.mul_comm]
    rfl
  rw [e]
  refine ((two_one h).pow j).trans (Cg.of_eq ?_)
  exact Int.one_pow
theorem root_one {p n : Nat} (h : okP p = true) (hn : LenOk p n) : Cg p ((rootP p n : Int) ^ n) 1 := by
  refine ((Cg.mod (p := p) _).pow _).trans (Cg.trans (Cg.of_eq ?_) (gen_one h))
  rw [Int.natCast_pow, ← Int.pow_mul]
  congr 1
  have hd := hn.dvd
  have := Nat.div_add_mod (p - 1) n
  rw [Nat.mul_comm]
  omega
theorem inv_root {p n : Nat} (h : okP p = true) (hn : LenOk p n) : Cg p ((rootP p n : Int) * ((rootP p n ^ (p - 2) % p : Nat) : Int)) 1 := by
  have hp := okP_lt h
  refine (Cg.rfl'.mul (Cg.mod _)).trans ?_
  have e : (rootP p n : Int) * ((rootP p n ^ (p - 2) : Nat) : Int) = ((rootP p n : Int) ^ n) ^ ((p - 1) / n) := by
    have hd := hn.dvd
    have h2 := Nat.div_add_mod (p - 1) n
    rw [Int.natCast_pow, Int.mul_comm, ← Int.pow_succ, ← Int.pow_mul]
    congr 1
    omega
  rw [e]
  exact ((root_one h hn).pow _).trans (Cg.of_eq Int.one_pow)
end Go.Proofs.YtakjnmojigechaaGreat
namespace Go.Proofs.YtakjnmojigechaaGreat
theorem evI_one_zero {p : Nat} : ∀ (j : Nat) (x : Int) (t : Nat), t < j → Cg p (x ^ (2 ^ t)) (-1) → Cg p (evI (fun _ => 1) x (2 ^ j)) 0
  | 0, _, t, ht, _ => absurd ht (Nat.not_lt_zero t)
  | j + 1, x, t, ht, hx => by
    rw [show 2 ^ (j + 1) = 2 * 2 ^ j by rw [Nat.pow_succ, Nat.mul_comm], evI_split]
    show Cg p (evI (fun _ => 1) (x * x) (2 ^ j) + x * evI (fun _ => 1) (x * x) (2 ^ j)) 0
    cases t with
    | zero =>
      rw [Nat.pow_zero, Int.pow_succ, Int.pow_zero, Int.one_mul] at hx
      exact (Cg.rfl'.add (hx.mul Cg.rfl')).trans (Cg.of_eq (by omega))
    | succ t =>
      have ih := evI_one_zero j (x * x) t (by omega) (by
        refine Cg.trans (Cg.of_eq ?_) hx
        rw [show x * x = x ^ 2 by rw [Int.pow_succ, Int.pow_succ, Int.pow_zero, Int.one_mul], ← Int.pow_mul]
        congr 1
        rw [Nat.pow_succ, Nat.mul_comm])
      exact (ih.add (Cg.rfl'.mul ih)).trans (Cg.of_eq (by omega))
theorem odd_neg : ∀ o : Nat, (-1 : Int) ^ (2 * o + 1) = -1
  | 0 => by decide
  | o + 1 => by rw [show 2 * (o + 1) + 1 = (2 * o + 1) + 1 + 1 by omega, Int.pow_succ, Int.pow_succ, odd_neg o]; decide
theorem some_neg {p : Nat} : ∀ (j : Nat) (w : Int) (d : Nat), Cg p (w ^ (2 ^ (j - 1))) (-1) → 0 < d → d < 2 ^ j → ∃ t, t < j ∧ Cg p ((w ^ d) ^ (2 ^ t)) (-1)
  | 0, _, d, _, h0, h1 => by omega
  | j + 1, w, d, hw, h0, h1 => by
    rcases Nat.mod_two_eq_zero_or_one d with h | h
    · obtain ⟨e, rfl⟩ : ∃ e, d = 2 * e := ⟨d / 2, by omega⟩
      have hj : j ≠ 0 := by rintro rfl; omega
      have he : e < 2 ^ j := by rw [Nat.pow_succ] at h1; omega
      obtain ⟨t, ht, hc⟩ := some_neg j (w ^ 2) e (by
        refine Cg.trans (Cg.of_eq ?_) hw
        rw [← Int.pow_mul]
        congr 1
        show 2 * 2 ^ (j - 1) = 2 ^ j
        rw [Nat.mul_comm, ← Nat.pow_succ]
        congr 1
        omega) (by omega) he
      exact ⟨t, by omega, by rw [Int.pow_mul (a := w)]; exact hc⟩
    · obtain ⟨o, rfl⟩ : ∃ o, d = 2 * o + 1 := ⟨d / 2, by omega⟩
      refine ⟨j, by omega, ?_⟩
      rw [← Int.pow_mul, Nat.mul_comm, Int.pow_mul]
      exact (Cg.pow hw _).trans (Cg.of_eq (odd_neg o))
theorem root_sum {p j d : Nat} {w : Int} (hw : Cg p (w ^ (2 ^ (j - 1))) (-1)) (h0 : 0 < d) (h1 : d < 2 ^ j) : Cg p (evI (fun _ => 1) (w ^ d) (2 ^ j)) 0 := by
  obtain ⟨t, ht, hc⟩ := some_neg j w d hw h0 h1
  exact evI_one_zero j _ t ht hc
end Go.Proofs.YtakjnmojigechaaGreat
namespace Go.Proofs.YtakjnmojigechaaGreat
def sumI (f : Nat → Int) : Nat → Int
  | 0 => 0
  | n + 1 => sumI f n + f n
theorem evI_sum (a : Nat → Int) (x : Int) : ∀ n, evI a x n = sumI (fun i => a i * x ^ i) n
  | 0 => rfl
  | n + 1 => by rw [evI, sumI, evI_sum a x n]
theorem sumI_cg {p : Nat} {f g : Nat → Int} : ∀ n, (∀ i, i < n → Cg p (f i) (g i)) → Cg p (sumI f n) (sumI g n)
  | 0, _ => Cg.rfl'
  | n + 1, h => (sumI_cg n fun i hi => h i (by omega)).add (h n (by omega))
theorem sumI_mul (c : Int) (f : Nat → Int) : ∀ n, c * sumI f n = sumI (fun i => c * f i) n
  | 0 => by simp [sumI]
  | n + 1 => by rw [sumI, sumI, Int.mul_add, sumI_mul c f n]
theorem sumI_add (f g : Nat → Int) : ∀ n, sumI (fun i => f i + g i) n = sumI f n + sumI g n
  | 0 => rfl
  | n + 1 => by rw [sumI, sumI, sumI, sumI_add f g n]; omega
theorem sumI_zero : ∀ n, sumI (fun _ => 0) n = 0
  | 0 => rfl
  | n + 1 => by rw [sumI, sumI_zero n]; rfl
theorem sumI_swap (f : Nat → Nat → Int) (m : Nat) : ∀ n, sumI (fun i => sumI (fun k => f i k) m) n = sumI (fun k => sumI (fun i => f i k) n) m
  | 0 => by simp only [sumI]; rw [sumI_zero]
  | n + 1 => by
    rw [sumI, sumI_swap f m n, ← sumI_add]
    rfl
theorem sumI_one {p n q : Nat} {f : Nat → Int} {y : Int} (hq : q < n) (h0 : ∀ k, k < n → k ≠ q → Cg p (f k) 0) (h1 : Cg p (f q) y) : Cg p (sumI f n) y := by
  induction n with
  | zero => omega
  | succ n ih =>
    rw [sumI]
    by_cases e : q = n
    · subst e
      have hz : Cg p (sumI f q) (sumI (fun _ => 0) q) := sumI_cg q fun i hi => h0 i (by omega) (by omega)
      rw [sumI_zero] at hz
      exact (hz.add h1).trans (Cg.of_eq (by omega))
    · exact ((ih (by omega) fun k hk hne => h0 k (by omega) hne).add (h0 n (by omega) (by omega))).trans (Cg.of_eq (by omega))
theorem evI_ones : ∀ n : Nat, evI (fun _ => 1) 1 n = (n : Int)
  | 0 => rfl
  | n + 1 => by rw [evI, evI_ones n, Int.one_pow]; omega
theorem half_inv {p j : Nat} {w v : Int} (hw : Cg p (w ^ (2 ^ (j - 1))) (-1)) (hv : Cg p (w * v) 1) : Cg p (v ^ (2 ^ (j - 1))) (-1) := by
  have h1 := hv.pow (2 ^ (j - 1))
  rw [Int.mul_pow, Int.one_pow] at h1
  have h2 := ((hw.mul (Cg.rfl' (x := v ^ (2 ^ (j - 1))))).symm.trans h1).neg
  exact Cg.trans (Cg.of_eq (by omega)) h2
theorem inv_pow {p : Nat} {w v : Int} (hv : Cg p (w * v) 1) (q : Nat) : Cg p (v ^ q * w ^ q) 1 := by
  rw [← Int.mul_pow, Int.mul_comm v w]
  exact (hv.pow q).trans (Cg.of_eq Int.one_pow)
theorem inv_eval {p n j : Nat} (m : Nat → Int) (w v s : Int) (hn : n = 2 ^ j) (hw : j = 0 ∨ Cg p (w ^ (2 ^ (j - 1))) (-1)) (hv : Cg p (w * v) 1) (hs : Cg p ((n : Int) * s) 1) (q : Nat) (hq : q < n) :
    Cg p (evI (fun i => s * evI m (v ^ i) n) (w ^ q) n) (m q) := by
  have hx : ∀ k, k < n → k ≠ q → Cg p (evI (fun _ => 1) (v ^ k * w ^ q) n) 0 := by
    intro k hk hne
    have hj : j ≠ 0 := by rintro rfl; omega
    have hw1 : Cg p (w ^ (2 ^ (j - 1))) (-1) := hw.resolve_left hj
    rcases Nat.lt_or_gt_of_ne hne with h | h
    · have e : Cg p (v ^ k * w ^ q) (w ^ (q - k)) := by
        obtain ⟨d, rfl⟩ : ∃ d, q = k + d := ⟨q - k, by omega⟩
        rw [Nat.add_sub_cancel_left, Int.pow_add, ← Int.mul_assoc]
        exact ((inv_pow hv k).mul Cg.rfl').trans (Cg.of_eq (Int.one_mul _))
      rw [hn]
      exact (evI_cg (fun _ => Cg.rfl') e _).trans (root_sum hw1 (by omega) (by omega))
    · have e : Cg p (v ^ k * w ^ q) (v ^ (k - q)) := by
        obtain ⟨d, rfl⟩ : ∃ d, k = q + d := ⟨k - q, by omega⟩
        rw [Nat.add_sub_cancel_left, Int.pow_add, Int.mul_assoc, Int.mul_comm (v ^ d), ← Int.mul_assoc]
        exact ((inv_pow hv q).mul Cg.rfl').trans (Cg.of_eq (Int.one_mul _))
      rw [hn]
      exact (evI_cg (fun _ => Cg.rfl') e _).trans (root_sum (half_inv hw1 hv) (by omega) (by omega))
  have hq1 : Cg p (evI (fun _ => 1) (v ^ q * w ^ q) n) (n : Int) := (evI_cg (fun _ => Cg.rfl') (inv_pow hv q) n).trans (Cg.of_eq (evI_ones n))
  have e1 : evI (fun i => s * evI m (v ^ i) n) (w ^ q) n = sumI (fun k => s * m k * evI (fun _ => 1) (v ^ k * w ^ q) n) n := by
    rw [evI_sum]
    have e2 : (fun i => s * evI m (v ^ i) n * (w ^ q) ^ i) = fun i => sumI (fun k => s * m k * (v ^ k * w ^ q) ^ i) n := by
      funext i
      rw [evI_sum, Int.mul_comm (s * _), ← Int.mul_assoc, sumI_mul]
      congr 1
      funext k
      rw [Int.mul_pow, ← Int.pow_mul (a := v), ← Int.pow_mul (a := v), Nat.mul_comm i k]
      grind
    rw [e2, sumI_swap]
    congr 1
    funext k
    rw [evI_sum, sumI_mul]
    congr 1
    funext i
    rw [Int.one_mul]
  rw [e1]
  refine sumI_one hq (fun k hk hne => ?_) ?_
  · exact (Cg.rfl'.mul (hx k hk hne)).trans (Cg.of_eq (Int.mul_zero _))
  · refine (Cg.rfl'.mul hq1).trans (Cg.trans (Cg.of_eq (y := (n : Int) * s * m q) (by grind)) ?_)
    exact (hs.mul Cg.rfl').trans (Cg.of_eq (Int.one_mul _))
end Go.Proofs.YtakjnmojigechaaGreat
namespace Go.Proofs.YtakjnmojigechaaGreat
theorem invP_cg {p n j : Nat} (l : List Nat) (h : okP p = true) (hn : LenOk p n) (hj : n = 2 ^ j) {i : Nat} (hi : i < n) :
    Cg p (invP p n j l i : Int) (((n ^ (p - 2) % p : Nat) : Int) * evI (fun k => ((l.getD k 0 : Nat) : Int)) (((rootP p n ^ (p - 2) % p : Nat) : Int) ^ i) n) := by
  have hp := okP_lt h
  have hv : j = 0 ∨ Cg p (((rootP p n ^ (p - 2) % p : Nat) : Int) ^ (2 ^ (j - 1))) (-1) := (root_half h hn hj).imp id fun h1 => half_inv h1 (inv_root h hn)
  have h1 := fftP_ev p (by omega) j (redP p l) (rootP p n ^ (p - 2) % p) hv i (by omega)
  rw [← hj] at h1
  refine (Cg.mod _).trans ?_
  rw [Int.natCast_mul, Int.mul_comm]
  exact Cg.rfl'.mul (h1.trans (evI_cg (fun k => Cg.mod _) Cg.rfl' n))
theorem evI_cgn {p : Nat} {a b : Nat → Int} (x : Int) : ∀ n, (∀ i, i < n → Cg p (a i) (b i)) → Cg p (evI a x n) (evI b x n)
  | 0, _ => Cg.rfl'
  | n + 1, h => (evI_cgn x n fun i hi => h i (by omega)).add ((h n (by omega)).mul Cg.rfl')
theorem invP_val {p n j : Nat} (l : List Nat) (h : okP p = true) (hn : LenOk p n) (hj : n = 2 ^ j) {q : Nat} (hq : q < n) :
    Cg p (evI (fun i => (invP p n j l i : Int)) ((rootP p n : Int) ^ q) n) ((l.getD q 0 : Nat) : Int) :=
  (evI_cgn _ n fun _ hi => invP_cg l h hn hj hi).trans (inv_eval (fun k => ((l.getD k 0 : Nat) : Int)) _ _ _ hj (root_half h hn hj) (inv_root h hn) (inv_two h hj) q hq)
end Go.Proofs.YtakjnmojigechaaGreat
namespace Go.Proofs.YtakjnmojigechaaGreat
theorem evI_same {a b : Nat → Int} (x : Int) : ∀ n, (∀ i, i < n → a i = b i) → evI a x n = evI b x n
  | 0, _ => rfl
  | n + 1, h => by rw [evI, evI, evI_same x n fun i hi => h i (by omega), h n (by omega)]
theorem evI_put (a : Nat → Nat) (k v : Nat) (x : Int) : ∀ n, k < n → evI (fun i => (putF a k v i : Int)) x n = evI (fun i => (a i : Int)) x n + ((v : Int) - a k) * x ^ k
  | 0, h => by omega
  | n + 1, h => by
    rw [evI, evI]
    by_cases e : k = n
    · subst e
      rw [evI_same (b := fun i => (a i : Int)) x k fun i hi => by simp only [putF]; rw [if_neg (by omega)]]
      simp only [putF, if_true]
      grind
    · rw [evI_put a k v x n (by omega)]
      simp only [putF]
      rw [if_neg (by omega)]
      omega
end Go.Proofs.YtakjnmojigechaaGreat
namespace Go.Proofs.YtakjnmojigechaaGreat
theorem vanP_cg {p b : Nat} (hp : 0 < p) (hb : 0 < b) (l : List Nat) : ∀ i k, Cg p (vanP p b l i k : Int) ((if b ≤ k ∧ k < b + i then ((l.getD (k - b) 0 : Nat) : Int) else 0) - (if k < i then ((l.getD k 0 : Nat) : Int) else 0))
  | 0, k => by
    rw [if_neg (by omega), if_neg (by omega)]
    exact Cg.of_eq rfl
  | i + 1, k => by
    have ih := vanP_cg hp hb l i
    rw [vanP]
    simp only [putF]
    by_cases h1 : k = b + i
    · subst h1
      rw [if_pos rfl, if_neg (by omega), if_pos (by omega), Nat.add_sub_cancel_left]
      have h := ih (b + i)
      rw [if_neg (by omega)] at h
      refine (Cg.mod _).trans (Cg.trans (Cg.of_eq (Int.natCast_add _ _)) ?_)
      by_cases h2 : b + i < i + 1
      · omega
      · rw [if_neg h2]
        rw [if_neg (by omega)] at h
        exact (h.add Cg.rfl').trans (Cg.of_eq (by omega))
    · rw [if_neg h1]
      by_cases h2 : k = i
      · subst h2
        rw [if_pos rfl, if_pos (show k < k + 1 by omega)]
        have h := ih k
        rw [if_neg (by omega : ¬ k < k)] at h
        refine (Cg.mod _).trans (Cg.trans (Cg.of_eq (Int.natCast_add _ _)) ?_)
        have e : (if b ≤ k ∧ k < b + (k + 1) then ((l.getD (k - b) 0 : Nat) : Int) else 0) = (if b ≤ k ∧ k < b + k then ((l.getD (k - b) 0 : Nat) : Int) else 0) := by
          by_cases h3 : b ≤ k
          · rw [if_pos (by omega), if_pos (by omega)]
          · rw [if_neg (by omega), if_neg (by omega)]
        rw [e]
        exact (h.add (negP_cg p _ hp)).trans (Cg.of_eq (by omega))
      · rw [if_neg h2]
        have h := ih k
        refine h.trans (Cg.of_eq ?_)
        congr 1
        · by_cases h3 : b ≤ k ∧ k < b + i
          · rw [if_pos h3, if_pos (by omega)]
          · rw [if_neg h3, if_neg (by omega)]
        · by_cases h3 : k < i
          · rw [if_pos h3, if_pos (by omega)]
          · rw [if_neg h3, if_neg (by omega)]
theorem zeroP_get (p b i : Nat) : (zeroP p b).getD i 0 = if i < b + 1 then zeroF p b i else 0 := range_get _ _ _
theorem mulZ_low {p b : Nat} (hp : 1 < p) (hb : 0 < b) (m : List Nat) (i : Nat) : ∀ j, j < b → Cg p ((mulK p (zeroP p b) m (j + 1)).getD i 0 : Int) (-((m.getD i 0 : Nat) : Int))
  | 0, _ => by
    have hz : (zeroP p b).getD 0 0 = p - 1 := by rw [zeroP_get, if_pos (by omega)]; rfl
    rw [mulK, addP_get, shiftP_get, if_neg (by omega), scaleP_get, hz]
    have e0 : (mulK p (zeroP p b) m 0).getD i 0 = 0 := by rw [mulK]; rfl
    rw [e0, Nat.sub_zero]
    refine (Cg.mod _).trans ?_
    rw [Nat.zero_add]
    refine (Cg.mod _).trans ?_
    rw [Int.natCast_mul]
    have h1 : Cg p ((p - 1 : Nat) : Int) (-1) := ⟨1, by omega⟩
    exact ((Cg.rfl' (x := ((m.getD i 0 : Nat) : Int))).mul h1).trans (Cg.of_eq (by omega))
  | j + 1, hj => by
    have hz : (zeroP p b).getD (j + 1) 0 = 0 := by
      rw [zeroP_get, if_pos (by omega), zeroF, if_neg (by omega), if_neg (by omega)]
    rw [mulK_get_zero _ _ _ _ hz]
    exact (Cg.mod _).trans (mulZ_low hp hb m i j (by omega))
theorem mulZ_cg {p b : Nat} (hp : 1 < p) (hb : 0 < b) (m : List Nat) (i : Nat) : Cg p ((mulP p (zeroP p b) m).getD i 0 : Int) ((if b ≤ i then ((m.getD (i - b) 0 : Nat) : Int) else 0) - ((m.getD i 0 : Nat) : Int)) := by
  have hz : (zeroP p b).getD b 0 = 1 := by rw [zeroP_get, if_pos (by omega), zeroF, if_neg (by omega), if_pos rfl]
  obtain ⟨c, rfl⟩ : ∃ c, b = c + 1 := ⟨b - 1, by omega⟩
  rw [mulP, zeroP_len, mulK, addP_get, shiftP_get, scaleP_get, hz, Nat.mul_one]
  have h := mulZ_low hp hb m i c (by omega)
  refine (Cg.mod _).trans (Cg.trans (Cg.of_eq (Int.natCast_add _ _)) ?_)
  by_cases h1 : i < c + 1
  · rw [if_pos h1, if_neg (by omega)]
    exact (h.add Cg.rfl').trans (Cg.of_eq (by omega))
  · rw [if_neg h1, if_pos (by omega)]
    exact (h.add (Cg.mod _)).trans (Cg.of_eq (by omega))
theorem mulZ_van {p b : Nat} (hp : 1 < p) (hb : 0 < b) (m : List Nat) (i : Nat) : (mulP p (zeroP p b) m).getD i 0 = vanP p b m m.length i := by
  refine Cg.eq (p := p) ((mulZ_cg hp hb m i).trans (Cg.trans (Cg.of_eq ?_) (vanP_cg (by omega) hb m m.length i).symm)) (mulK_lt (by omega) _ _ _ _) (vanP_lt (by omega) _ _ _)
  congr 1
  · by_cases h1 : b ≤ i
    · rw [if_pos h1]
      by_cases h2 : i < b + m.length
      · rw [if_pos ⟨h1, h2⟩]
      · rw [if_neg (by omega), getD_out (by omega)]; rfl
    · rw [if_neg h1, if_neg (by omega)]
  · by_cases h1 : i < m.length
    · rw [if_pos h1]
    · rw [if_neg h1, getD_out (by omega)]; rfl
theorem geoR_cg {p a b : Nat} : ∀ k, Cg p (geoR p a b k : Int) ((a : Int) * (b : Int) ^ k)
  | 0 => Cg.of_eq (by rw [geoR, Int.pow_zero, Int.mul_one])
  | k + 1 => by
    rw [geoR]
    refine (Cg.mod _).trans ?_
    rw [Int.natCast_mul, Int.pow_succ, ← Int.mul_assoc]
    exact (geoR_cg k).mul Cg.rfl'
theorem domR_cg {p s n : Nat} (k : Nat) : Cg p (domR p s n k : Int) ((s : Int) * (rootP p n : Int) ^ k) := (geoR_cg k).trans ((Cg.mod s).mul Cg.rfl')
theorem evI_shift (a : Nat → Int) (x : Int) : ∀ n, evI a x (n + 1) = a 0 + x * evI (fun i => a (i + 1)) x n
  | 0 => by simp [evI]
  | n + 1 => by
    rw [evI, evI_shift a x n, evI, Int.pow_succ]
    grind
theorem hornP_cg {p x : Nat} : ∀ l : List Nat, Cg p (hornP p x l : Int) (evI (fun i => ((l.getD i 0 : Nat) : Int)) (x : Int) l.length)
  | [] => Cg.rfl'
  | c :: l => by
    rw [hornP, List.length_cons, evI_shift]
    refine (Cg.mod _).trans (Cg.trans (Cg.of_eq (Int.natCast_add _ _)) ?_)
    refine (((Cg.mod (hornP p x l * x)).trans (Cg.trans (Cg.of_eq (Int.natCast_mul _ _)) ((hornP_cg l).mul Cg.rfl'))).add Cg.rfl').trans (Cg.of_eq ?_)
    show evI (fun i => ((l.getD i 0 : Nat) : Int)) (x : Int) l.length * (x : Int) + (c : Int) = (c : Int) + (x : Int) * evI (fun i => ((l.getD i 0 : Nat) : Int)) (x : Int) l.length
    rw [Int.mul_comm, Int.add_comm]
theorem powR_cg {p x : Nat} : ∀ k, Cg p (powR p x k : Int) ((x : Int) ^ k)
  | 0 => Cg.rfl'
  | k + 1 => by
    rw [powR]
    refine (Cg.mod _).trans ?_
    rw [Int.natCast_mul, Int.pow_succ]
    exact (powR_cg k).mul Cg.rfl'
theorem evS_cg {p x : Nat} (l : List Nat) : ∀ k, Cg p (evS p l (powR p x) k : Int) (evI (fun i => ((l.getD i 0 : Nat) : Int)) (x : Int) k)
  | 0 => Cg.rfl'
  | k + 1 => by
    rw [evS, evI]
    refine (Cg.mod _).trans (Cg.trans (Cg.of_eq (Int.natCast_add _ _)) ?_)
    refine (evS_cg l k).add ((Cg.mod _).trans ?_)
    rw [Int.natCast_mul]
    exact Cg.rfl'.mul (powR_cg k)
theorem evalP_cg {p x : Nat} (l : List Nat) : Cg p (evalP p l x : Int) (evI (fun i => ((l.getD i 0 : Nat) : Int)) (x : Int) l.length) := evS_cg l _
theorem evalP_lt {p : Nat} (hp : 0 < p) (l : List Nat) (x : Nat) : evalP p l x < p := by
  rw [evalP]
  cases l.length with
  | zero => exact hp
  | succ k => exact Nat.mod_lt _ hp
theorem inv_turn {p n i : Nat} {w v : Int} (h1 : Cg p (w ^ n) 1) (h2 : Cg p (w * v) 1) (hi : i < n) : Cg p (w ^ ((n - i) % n)) (v ^ i) := by
  have h3 : Cg p (w ^ ((n - i) % n) * w ^ i) 1 := by
    rcases Nat.eq_zero_or_pos i with h | h
    · subst h
      rw [Nat.sub_zero, Nat.mod_self]
      exact Cg.of_eq (by simp)
    · rw [Nat.mod_eq_of_lt (by omega), ← Int.pow_add, show n - i + i = n by omega]
      exact h1
  have h4 := inv_pow h2 i
  have h5 : Cg p (w ^ ((n - i) % n)) (w ^ ((n - i) % n) * (v ^ i * w ^ i)) := (Cg.of_eq (Int.mul_one _).symm).trans (Cg.rfl'.mul h4.symm)
  refine h5.trans ((Cg.of_eq ?_).trans ((h3.mul Cg.rfl').trans (Cg.of_eq (Int.one_mul _))))
  rw [Int.mul_comm (v ^ i), Int.mul_assoc]
theorem intR_inv {p j : Nat} (l : List Nat) (h : okP p = true) (hn : LenOk p l.length) (hj : l.length = 2 ^ j) {i : Nat} (hi : i < l.length) : intR p l 1 i = invP p l.length j l i := by
  have hp := okP_lt h
  refine Cg.eq (p := p) ?_ (Nat.mod_lt _ (by omega)) (Nat.mod_lt _ (by omega))
  refine Cg.trans ?_ (invP_cg l h hn hj hi).symm
  refine (Cg.mod _).trans ?_
  rw [Int.natCast_mul, Int.mul_comm]
  have e1 : (1 % p) ^ (p - 2) % p = 1 := by rw [Nat.mod_eq_of_lt (show 1 < p by omega), Nat.one_pow, Nat.mod_eq_of_lt (by omega)]
  rw [e1]
  refine Cg.mul ((geoR_cg i).trans (Cg.of_eq ?_)) ?_
  · rw [show ((1 : Nat) : Int) = 1 from rfl, Int.one_pow, Int.mul_one]
  · rw [intE]
    refine (hornP_cg l).trans (evI_cg (fun _ => Cg.rfl') ?_ _)
    refine (domR_cg _).trans (Cg.trans (Cg.of_eq ?_) (inv_turn (root_one h hn) (inv_root h hn) hi))
    exact Int.one_mul _
def mrowL (L : LayR) (msg masks : List Nat) : List Nat := (List.range (L.block + masks.length)).map (mrowP L msg masks)
def quadL (L : LayR) (q : List Nat) : List Nat := (List.range (L.block + q.length)).map (vanP L.p L.block q q.length)
theorem rowR_eq {L : LayR} (hL : LayOk L) {msg masks : List Nat} (h1 : msg.length = L.block) (h2 : masks.length = L.queries) : rowR L msg masks = mrowL L msg masks := by
  have hp := okP_lt hL.p
  have hb := hL.b1
  have hk := hL.k
  obtain ⟨hlen, j, hj⟩ := layLen hL
  have hlog : L.block.log2 = j := by rw [hj]; exact Nat.log2_two_pow
  have hl1 : (rowR L msg masks).length = L.block + masks.length := by
    rw [rowR, padP_len]
    have h3 := addP_len L.p ((List.range msg.length).map (intR L.p msg 1)) (mulP L.p (zeroP L.p L.block) masks)
    have h4 := mulP_len L.p (zeroP L.p L.block) masks
    rw [zeroP_len] at h4
    rw [List.length_map, List.length_range] at h3
    omega
  refine list_ext0 (by rw [hl1, mrowL, List.length_map, List.length_range]) fun i hi => ?_
  rw [hl1] at hi
  rw [rowR, padP_get, addP_get, range_get, mulZ_van (by omega) (by omega), mrowL, range_get, if_pos hi, mrowP, plusP]
  by_cases h3 : i < L.block
  · rw [if_pos (by omega), if_pos h3, hlog, intR_inv (j := j) msg hL.p (by rw [h1]; exact hlen) (by rw [h1]; exact hj) (by omega), h1, Nat.add_comm]
  · rw [if_neg (by omega), if_neg h3, Nat.zero_add]
    exact Nat.mod_eq_of_lt (vanP_lt (by omega) _ _ _)
theorem quadR_eq {L : LayR} (hL : LayOk L) {q : List Nat} (h : q.length = L.block + 2 * L.queries - 1) : quadR L q = quadL L q := by
  have hp := okP_lt hL.p
  have hb := hL.b1
  have hk := hL.k
  have hl1 : (quadR L q).length = L.block + q.length := by
    rw [quadR, padP_len]
    have h4 := mulP_len L.p (zeroP L.p L.block) q
    rw [zeroP_len] at h4
    omega
  refine list_ext0 (by rw [hl1, quadL, List.length_map, List.length_range]) fun i hi => ?_
  rw [hl1] at hi
  rw [quadR, padP_get, mulZ_van (by omega) (by omega), quadL, range_get, if_pos hi]
end Go.Proofs.YtakjnmojigechaaGreat
namespace Go.Proofs.YtakjnmojigechaaGreat
theorem evI_plus {p nb : Nat} (A B : Nat → Nat) (x : Int) : ∀ n, Cg p (evI (fun k => (plusP p nb A B k : Int)) x n) (evI (fun k => (A k : Int)) x n + evI (fun k => (B k : Int)) x (min n nb))
  | 0 => by rw [Nat.zero_min]; exact Cg.rfl'
  | n + 1 => by
    have ih := evI_plus A B x (p := p) (nb := nb) n
    rw [evI, evI]
    by_cases h : n < nb
    · rw [show min (n + 1) nb = n + 1 by omega, evI, plusP, if_pos h]
      rw [show min n nb = n by omega] at ih
      refine (ih.add (((Cg.mod (A n + B n)).trans (Cg.of_eq (Int.natCast_add _ _))).mul (Cg.rfl' (x := x ^ n)))).trans (Cg.of_eq ?_)
      rw [Int.add_mul]
      omega
    · rw [show min (n + 1) nb = nb by omega, plusP, if_neg h]
      rw [show min n nb = nb by omega] at ih
      exact (ih.add Cg.rfl').trans (Cg.of_eq (by omega))
theorem root_pow {p n : Nat} (h : okP p = true) (hn : LenOk p n) (k : Nat) : Cg p (((rootP p n : Int) ^ k) ^ n) 1 := by
  rw [← Int.pow_mul, Nat.mul_comm, Int.pow_mul]
  exact ((root_one h hn).pow k).trans (Cg.of_eq Int.one_pow)
theorem domR_one {p n k : Nat} : Cg p (domR p 1 n k : Int) ((rootP p n : Int) ^ k) := domR_cg k |>.trans (Cg.of_eq (Int.one_mul _))
theorem pow_mod_root {p n : Nat} {x : Int} (h : Cg p (x ^ n) 1) (i : Nat) : Cg p (x ^ i) (x ^ (i % n)) := by
  have e := Nat.div_add_mod i n
  rw [← e]
  rw [Int.pow_add, Int.pow_mul, Nat.mul_add_mod, Nat.mod_mod]
  exact ((h.pow _).mul Cg.rfl').trans (Cg.of_eq (by rw [Int.one_pow, Int.one_mul]))
theorem accP_ev {p n : Nat} (hn : 0 < n) (l : List Nat) (s : Nat) (x : Int) (hx : Cg p (x ^ n) 1) : ∀ i, Cg p (evI (fun k => (accP p n l s i k : Int)) x n) (evI (fun k => ((l.getD k 0 : Nat) : Int)) ((s : Int) * x) i)
  | 0 => by
    refine Cg.of_eq ?_
    show evI (fun k => ((0 : Nat) : Int)) x n = 0
    rw [evI_sum, ← sumI_zero n]
    congr 1
    funext k
    simp
  | i + 1 => by
    have ih := accP_ev hn l s x hx i
    rw [accP, evI_put _ _ _ _ _ (Nat.mod_lt _ hn), evI]
    refine ih.add ?_
    have h1 : Cg p (((accP p n l s i (i % n) + l.getD i 0 * powI p s i % p) % p : Nat) - (accP p n l s i (i % n) : Int)) (((l.getD i 0 : Nat) : Int) * (s : Int) ^ i) := by
      have h2 : Cg p ((l.getD i 0 * powI p s i % p : Nat) : Int) (((l.getD i 0 : Nat) : Int) * (s : Int) ^ i) := (Cg.mod _).trans (Cg.trans (Cg.of_eq (Int.natCast_mul _ _)) (Cg.rfl'.mul (powI_cg p s i)))
      have h3 := ((Cg.mod (p := p) (accP p n l s i (i % n) + l.getD i 0 * powI p s i % p)).trans (Cg.trans (Cg.of_eq (Int.natCast_add _ _)) (Cg.rfl'.add h2))).add (Cg.rfl' (x := -(accP p n l s i (i % n) : Int)))
      exact Cg.trans (Cg.of_eq (by omega)) (h3.trans (Cg.of_eq (by omega)))
    refine (h1.mul (pow_mod_root hx i).symm).trans (Cg.of_eq ?_)
    rw [Int.mul_pow, Int.mul_assoc]
theorem evaP_eq {p n j s k : Nat} (h : okP p = true) (hn : LenOk p n) (hj : n = 2 ^ j) (l : List Nat) (hk : k < n) : evaP p n j l s k = evalP p l (domR p s n k) := by
  have hp := okP_lt h
  refine Cg.eq (p := p) ?_ (evaP_lt (by omega) _ _ _ _ _) (evalP_lt (by omega) _ _)
  have h1 := fftP_ev p (by omega) j (accP p n l (s % p) l.length) (rootP p n) (root_half h hn hj) k (by rw [← hj]; exact hk)
  rw [← hj] at h1
  refine h1.trans ((accP_ev hn.pos l _ _ (root_pow h hn k) _).trans (Cg.trans ?_ (evalP_cg l).symm))
  exact evI_cg (fun _ => Cg.rfl') ((((Cg.mod s).mul Cg.rfl')).trans (domR_cg k).symm) _
end Go.Proofs.YtakjnmojigechaaGreat
namespace Go.Proofs.YtakjnmojigechaaGreat
open Go.RowKit
def rowsF (L : LayR) (m r : List (List Nat)) (k : Nat) : List Nat := rowR L (m.getD k []) (r.getD k [])
theorem rangeF_next (f : Nat → List Nat) (k : Nat) : (List.range k).map f ++ [f k] = (List.range (k + 1)).map f := by simp [List.range_succ]
theorem case_facts {p : Nat} {pub vars : Int} {rows : List RowR} {ws : List Nat} (ht : tabOk p pub vars rows = true) (ha : asgOk p vars ws = true) :
    ∃ pu : Nat, pub = (pu : Int) ∧ 1 + pu ≤ ws.length ∧ rows.length ≤ 16384 ∧ ∀ x ∈ ws, x < p := by
  simp only [tabOk, Bool.and_eq_true, Bool.not_eq_true', decide_eq_false_iff_not] at ht
  simp only [asgOk, Bool.and_eq_true, Bool.not_eq_true', bne_eq_false_iff_eq, List.all_eq_true] at ha
  obtain ⟨⟨⟨⟨⟨-, h1⟩, h2⟩, -⟩, h4⟩, -⟩ := ht
  obtain ⟨⟨⟨h5, -⟩, -⟩, h6⟩ := ha
  refine ⟨pub.toNat, by omega, by omega, by omega, fun x hx => ?_⟩
  have := h6 x hx
  simp at this
  omega
theorem cutV_len (B : Nat) (v : List Nat) (n : Nat) : (cutV B v n).length = n := by simp [cutV]
theorem cutPre_len (B : Nat) (l : Nat → List Nat) (ps : Nat → Nat) : ∀ i, (cutPre B l ps (i + 1)).length = (cutPre B l ps i).length + ps i := fun i => by rw [cutPre_next, List.length_append, cutV_len]
theorem msgsR_len (L : LayR) (rows : List RowR) (ws : List Nat) (pu : Nat) : (msgsR L rows ws pu).length = L.a + L.b + L.b + L.b := by
  unfold msgsR cutL
  rw [cutPre_len, cutPre_len, cutPre_len, cutPre_len]
  show 0 + L.a + L.b + L.b + L.b = _
  omega
theorem cutL_mem {B : Nat} {l : Nat → List Nat} {ps : Nat → Nat} {r : List Nat} (h : r ∈ cutL B l ps) : ∃ i k, i < 4 ∧ k < ps i ∧ r = cutRow B (l i) k := by
  unfold cutL cutPre at h
  obtain ⟨i, hi, hr⟩ := List.mem_flatMap.1 h
  obtain ⟨k, hk, rfl⟩ := List.mem_map.1 hr
  exact ⟨i, k, List.mem_range.1 hi, List.mem_range.1 hk, rfl⟩
theorem msgsR_row {L : LayR} {rows : List RowR} {ws : List Nat} {pu : Nat} {r : List Nat} (h : r ∈ msgsR L rows ws pu) : r.length = L.block := by
  obtain ⟨i, k, -, -, rfl⟩ := cutL_mem h
  simp [cutRow]
theorem getD_lt {l : List Nat} {p : Nat} (hp : 0 < p) (h : ∀ x ∈ l, x < p) (i : Nat) : l.getD i 0 < p := by
  rw [List.getD_eq_getElem?_getD]
  cases e : l[i]? with
  | none => exact hp
  | some x => exact h x (List.mem_of_getElem? e)
theorem msgsR_lt {L : LayR} {rows : List RowR} {ws : List Nat} {pu : Nat} (hp : 0 < L.p) (hw : ∀ x ∈ ws, x < L.p) {r : List Nat} (h : r ∈ msgsR L rows ws pu) (j : Nat) : r.getD j 0 < L.p := by
  obtain ⟨i, k, hi, -, rfl⟩ := cutL_mem h
  rw [cutRow, range_get]
  split
  · refine getD_lt hp ?_ _
    rcases (show i = 0 ∨ i = 1 ∨ i = 2 ∨ i = 3 by omega) with rfl | rfl | rfl | rfl
    · exact fun x hx => hw x (List.mem_of_mem_drop hx)
    all_goals
      intro x hx
      obtain ⟨r, -, rfl⟩ := List.mem_map.1 hx
      exact linVal_lt hp _ _
  · exact hp
def docI (p pu n rho : Nat) (rows : List RowR) (k : Nat) (f : Nat → Nat) : Nat → (Nat → Nat)
  | 0 => f
  | i + 1 => secT p pu (rho ^ (k * n + i) % p) (docI p pu n rho rows k f i) (sideR (rows.getD i ⟨[], [], []⟩) k) (sideR (rows.getD i ⟨[], [], []⟩) k).length
def docK (p pu n rho : Nat) (rows : List RowR) : Nat → (Nat → Nat)
  | 0 => fun _ => 0
  | k + 1 => docI p pu n rho rows k (docK p pu n rho rows k) n
def coefD (L : LayR) (pu rho : Nat) (rows : List RowR) : List (List Nat) :=
  cutL L.block (sel4 ((List.range L.secret).map (docK L.p pu rows.length rho rows 3)) (pwL L.p rows.length rho 0) (pwL L.p rows.length rho 1) (pwL L.p rows.length rho 2)) (sel4 L.a L.b L.b L.b)
def FromXX (g h N : Nat) (w w' : World) : Prop := Below 0 w w' ∧ ∀ b, b < N → b ≠ g → b ≠ h → w'.heap[b]? = w.heap[b]?
theorem fxx_refl (g h N : Nat) (w : World) : FromXX g h N w w := ⟨Below.refl _ _, fun _ _ _ _ => rfl⟩
theorem fxx_trans {g h N : Nat} {a b c : World} (x : FromXX g h N a b) (y : FromXX g h N b c) : FromXX g h N a c := ⟨x.1.trans y.1, fun k h1 h2 h3 => (y.2 k h1 h2 h3).trans (x.2 k h1 h2 h3)⟩
theorem fxx_below {g h N B : Nat} {a b : World} (x : Below B a b) (hN : N ≤ B) : FromXX g h N a b := ⟨x.mono (Nat.zero_le _), fun k h1 _ _ => x.block k (by omega)⟩
theorem fxx_grown {g h N : Nat} {a b : World} {u : Option Nat} (x : a.grownBy b u) (hu : ∀ q, u = some q → q = g ∨ q = h ∨ N ≤ q) (hN : N ≤ a.heap.size) : FromXX g h N a b :=
  ⟨below_of_grown x 0 (Nat.zero_le _) (fun _ _ => Nat.zero_le _), fun k h1 h2 h3 => x.block k (by omega) (fun e => by
    rcases hu k e.symm with e1 | e1 | e1 <;> omega)⟩
theorem fxx_blk {g h N b : Nat} {w w' : World} {t : TypeId} {cs : Array Value} (k : Blk w b t cs) (x : FromXX g h N w w') (hb : b < N) (h1 : b ≠ g) (h2 : b ≠ h) : Blk w' b t cs := by
  unfold Blk at *
  rw [x.2 b hb h1 h2]
  exact k
theorem fxx_to {g h N B : Nat} {a b c : World} (hab : Below B a b) (x : FromXX g h N b c) (hN : B ≤ N) (h1 : B ≤ g) (h2 : B ≤ h) : Below B a c :=
  hab.trans ⟨x.1.os, x.1.tape, x.1.output, x.1.size, fun k hk => x.2 k (by omega) (by omega) (by omega)⟩
set_option maxRecDepth 100000 in
set_option maxHeartbeats 4000000 in
theorem rCoefs_any (L : LayR) (pu rho : Nat) (vars : Int) (A : Option Addr) (R c : Nat) (rows : List RowR) (w : World) (hL : LayOk L) (hF : TabFor L pu vars rows) (hr : RSl 3 RRow w [.slice A R c] rows) (hV : VarsOk vars rows) :
    Calls Tryz.prog 75 #[.agg (layCs L), tabV L.p (pu : Int) vars (.slice A R c), .int .u64 (rho : Int)] w fun e w' => ∃ v, e = .returned v ∧ RRows w' [v] (coefD L pu rho rows) ∧ Below w.heap.size w w' := by
  obtain ⟨A', n', c', he, hln, hnc, hcx, hrd⟩ := hr
  simp at he
  obtain ⟨rfl, rfl, rfl⟩ := he
  have hs := hL.s
  have hrr := hL.r
  have hnr := hF.nr
  have hsec := hF.sec
  have hsm := hF.small
  have hR : R = rows.length := hln.symm
  have gR : R ≤ 16384 := by omega
  have HSd := Lib.hid (fun x y z w hx hy hz => rSides_any x y z w hx hy hz)
  have HM := Lib.hid (fun a b w => rMul_any L.p a b w hL.p)
  have HS := Lib.hid (fun a b w => rSub_any L.p a b w hL.p)
  have HCut := Lib.hid (fun v0 v1 v2 v3 l0 l1 l2 l3 w h => rCut_any L v0 v1 v2 v3 l0 l1 l2 l3 w hL h)
  obtain ⟨pw, hpw⟩ : ∃ pw : Nat → Nat, pw = fun i => rho ^ i % L.p := ⟨_, rfl⟩
  have HPX := Lib.hid (show ∀ i, pw i < 18446744073709551616 from fun i => by rw [hpw]; exact Nat.lt_trans (Nat.mod_lt _ (by have := okP_lt hL.p; omega)) (okP_lt hL.p).2)
  have HP0 := Lib.hid (show pw 0 = 1 by rw [hpw]; show rho ^ 0 % L.p = 1; rw [Nat.pow_zero]; exact Nat.mod_eq_of_lt (by have := okP_lt hL.p; omega))
  have HPS := Lib.hid (show ∀ i, pw i * rho % L.p = pw (i + 1) from fun i => by rw [hpw]; show rho ^ i % L.p * rho % L.p = rho ^ (i + 1) % L.p; rw [Nat.mod_mul_mod, Nat.pow_succ])
  obtain ⟨fK, hfK⟩ : ∃ fK, fK = docK L.p pu rows.length rho rows := ⟨_, rfl⟩
  obtain ⟨fI, hfI⟩ : ∃ fI, fI = fun k => docI L.p pu rows.length rho rows k (fK k) := ⟨_, rfl⟩
  have HK0 := Lib.hid (show fK 0 = fun _ => 0 by rw [hfK]; rfl)
  have HKS := Lib.hid (show ∀ k, fK (k + 1) = fI k R from fun k => by rw [hfI, hfK, hR]; rfl)
  have HI0 := Lib.hid (show ∀ k, fI k 0 = fK k from fun k => by rw [hfI]; rfl)
  have HIS := Lib.hid (show ∀ k i (hi : i < rows.length), fI k (i + 1) = secT L.p pu (pw (k * R + i)) (fI k i) (sideR rows[i] k) (sideR rows[i] k).length from fun k i hi => by
    have e : rows.getD i ⟨[], [], []⟩ = rows[i] := by rw [List.getD_eq_getElem?_getD, List.getElem?_eq_getElem hi]; rfl
    rw [hfI, hR, hpw]
    show secT L.p pu (rho ^ (k * rows.length + i) % L.p) _ (sideR (rows.getD i ⟨[], [], []⟩) k) (sideR (rows.getD i ⟨[], [], []⟩) k).length = _
    rw [e])
  have hp2 := (okP_lt hL.p).2
  have HT := Lib.hid (show ∀ (x : Nat) (f : Nat → Nat) ts t, (∀ k, f k < L.p) → ∀ k, secT L.p pu x f ts t k < L.p from fun x f ts t hf => by
    induction t with
    | zero => exact hf
    | succ t ih =>
      intro k
      show termF L.p pu x (secT L.p pu x f ts t) _ k < _
      unfold termF
      split
      · unfold putF
        split
        · exact Nat.mod_lt _ (by have := okP_lt hL.p; omega)
        · exact ih k
      · exact ih k)
  have HI := Lib.hid (show ∀ k, (∀ s, fK k s < L.p) → ∀ i, i ≤ rows.length → ∀ s, fI k i s < L.p from fun k hk i => by
    induction i with
    | zero => intro _; rw [HI0.out]; exact hk
    | succ i ih => intro hi; rw [HIS.out k i (by omega)]; exact HT.out _ _ _ _ (ih (by omega)))
  have HKX := Lib.hid (show ∀ k s, fK k s < 18446744073709551616 from fun k => by
    have : ∀ k s, fK k s < L.p := fun k => by
      induction k with
      | zero => intro s; rw [HK0.out]; have := okP_lt hL.p; show 0 < _; omega
      | succ k ih => rw [HKS.out]; exact HI.out k ih R (by omega)
    exact fun s => Nat.lt_trans (this k s) hp2)
  have HCD := Lib.hid (show coefD L pu rho rows = cutL L.block (sel4 ((List.range L.secret).map (fK 3)) (pwL L.p R rho 0) (pwL L.p R rho 1) (pwL L.p R rho 2)) (sel4 L.a L.b L.b L.b) by rw [hfK, hR]; rfl)
  have HPL := Lib.hid (show ∀ k, (List.range R).map (fun i => pw (k * R + i)) = pwL L.p R rho k from fun k => by rw [hpw]; rfl)
  have HVa := Lib.hid (show ∀ i (hi : i < rows.length) k, k < 3 → ∀ t (ht : t < (sideR rows[i] k).length), 0 ≤ ((sideR rows[i] k).getD t (0, 0)).1 ∧ ((sideR rows[i] k).getD t (0, 0)).1 < vars from fun i hi k hk t ht => by
    rw [List.getD_eq_getElem?_getD, List.getElem?_eq_getElem ht]
    exact hV _ (List.getElem_mem hi) k hk _ (List.getElem_mem ht))
  have HSEC := Lib.hid (And.intro hsec hsm)
  have HRR := Lib.hid hR
  have mk := mk_words L.secret (by omega)
  have gs1 : (L.secret : Int) ≤ 65536 := by omega
  have gs0 : (0 : Int) ≤ (L.secret : Int) := by omega
  have gRi : (R : Int) ≤ 16384 := by omega
  rw [HCD.out]
  clear hV hpw hfK hfI hF hs hrr hnr hsec hsm hp2 HCD HT HI hnc hcx hln hR hL
  unfold layCs tabV at *
  obtain ⟨kl, kt, hb0, -⟩ := boxes2 w 39 25 #[.int .u64 (L.p : Int), .int .i64 (L.block : Int), .int .i64 (L.queries : Int), .int .i64 (L.k : Int), .int .i64 (L.n : Int), .int .i64 (L.secret : Int), .int .i64 (L.rows : Int), .int .i64 (L.a : Int), .int .i64 (L.b : Int), .int .i64 (L.b : Int), .int .i64 (L.b : Int)] #[.int .u64 (L.p : Int), .int .i64 (pu : Int), .int .i64 vars, .slice A R c]
  go_enter Tryz.func75, Tryz.ntmps75
  go_upto_region 1 with fail
  generalize (w.alloc _).alloc _ = w1 at kl kt hb0 ⊢
  have hlt1 := kt.lt
  go_upto_region 2 with fail
  have kv := Blk.new w1 146 #[.slice none 0 0, .slice none 0 0, .slice none 0 0, .slice none 0 0]
  have hal := (Below.refl w1.heap.size w1).alloc (Nat.le_refl _) (.cells #[.slice none 0 0, .slice none 0 0, .slice none 0 0, .slice none 0 0] 146)
  replace kl := kl.below hal kl.lt
  replace kt := kt.below hal kt.lt
  replace hb0 := below_chain hb0 hal
  clear hal
  obtain ⟨gv, hgv⟩ : ∃ gv, gv = w1.heap.size := ⟨_, rfl⟩
  have hsv : (w1.alloc (.cells #[.slice none 0 0, .slice none 0 0, .slice none 0 0, .slice none 0 0] 146)).heap.size = gv + 1 := by rw [hgv]; simp
  rw [← hgv] at kv hlt1 ⊢
  clear hgv
  generalize w1.alloc _ = w2 at kl kt kv hb0 hsv ⊢
  have cl := kl.cell
  have cv := kv.cell
  have fv1 := kv.frozen
  have lv := kv.lt
  have HSV := Lib.hid hsv
  clear hsv
  go_upto_region 3 with fail
  have hsv := HSV.out
  clear HSV
  clear cl cv fv1 lv
  obtain ⟨gs, hgs⟩ : ∃ gs, gs = w2.heap.size := ⟨_, rfl⟩
  rw [← hgs] at hsv ⊢
  have hg := set_only (w := w2) gv 0 (.slice (some ⟨gs, 0, none⟩) L.secret L.secret)
  have hs3 : (w2.setCell ⟨gv, 0, none⟩ (.slice (some ⟨gs, 0, none⟩) L.secret L.secret)).heap.size = gs := by rw [hgs]; simp
  replace kv := kv.set_ 0 (.slice (some ⟨gs, 0, none⟩) L.secret L.secret)
  replace kv : Blk (w2.setCell ⟨gv, 0, none⟩ (.slice (some ⟨gs, 0, none⟩) L.secret L.secret)) gv 146 #[.slice (some ⟨gs, 0, none⟩) L.secret L.secret, .slice none 0 0, .slice none 0 0, .slice none 0 0] := by simpa using kv
  replace kl := kl.grown hg (fun e => by have := Option.some.inj e; omega)
  replace kt := kt.grown hg (fun e => by have := Option.some.inj e; omega)
  replace hb0 := hb0.trans (below_of_only hg hb0.size (by omega))
  clear hg hgs
  generalize w2.setCell _ _ = w3 at kl kt kv hb0 hs3 ⊢
  have kg := Blk.new w3 22 (fillC L.secret fun _ => 0)
  have hal := (Below.refl w3.heap.size w3).alloc (Nat.le_refl _) (.cells (fillC L.secret fun _ => 0) 22)
  replace kl := kl.below hal kl.lt
  replace kt := kt.below hal kt.lt
  replace kv := kv.below hal kv.lt
  replace hb0 := below_chain hb0 hal
  have hN0 : gs + 1 ≤ (w3.alloc (.cells (fillC L.secret fun _ => 0) 22)).heap.size := by simp; omega
  rw [hs3] at kg
  clear hal mk hs3
  generalize w3.alloc _ = w4 at kl kt kv kg hb0 hN0 ⊢
  have n1 : w.heap.size < gv := by omega
  have n2 : w.heap.size + 1 < gv := by omega
  have n3 : gv < gs := by omega
  clear hsv hlt1
  have H1 := Lib.hid (show (1 : Int) = ((pw (0 * R) : Nat) : Int) by rw [Nat.zero_mul, HP0.out]; rfl)
  obtain ⟨V0, hV0⟩ : ∃ V0 : Value, V0 = .slice (some ⟨gs, 0, none⟩) L.secret L.secret := ⟨_, rfl⟩
  have HV0 := Lib.hid hV0
  rw [← hV0] at kv
  clear hV0
  go_wp2_with fail
  go_loopw [8, 9] (fun xv y wr => ∃ (k : Nat) (xs : Nat → Value), k ≤ 3 ∧ y = .int .i64 (k : Int) ∧ xv = .int .u64 (pw (k * R) : Int) ∧ Blk wr w.heap.size 39 #[.int .u64 (L.p : Int), .int .i64 (L.block : Int), .int .i64 (L.queries : Int), .int .i64 (L.k : Int), .int .i64 (L.n : Int), .int .i64 (L.secret : Int), .int .i64 (L.rows : Int), .int .i64 (L.a : Int), .int .i64 (L.b : Int), .int .i64 (L.b : Int), .int .i64 (L.b : Int)] ∧ Blk wr (w.heap.size + 1) 25 #[.int .u64 (L.p : Int), .int .i64 (pu : Int), .int .i64 vars, .slice A R c] ∧ Blk wr gv 146 #[V0, xs 0, xs 1, xs 2] ∧ Blk wr gs 22 (fillC L.secret (fK k)) ∧ (∀ j, j < k → RWx (gs + 1) none wr (xs j) (pwL L.p R rho j)) ∧ (∀ j, k ≤ j → xs j = .slice none 0 0) ∧ Below w.heap.size w wr ∧ gs + 1 ≤ wr.heap.size) (fun _ y _ => 3 - (intOf y).toNat)
  case atStart => exact ⟨0, fun _ => .slice none 0 0, by omega, rfl, by rw [← H1.out], kl, kt, kv, by rw [HK0.out]; exact kg, fun j h => by omega, fun j _ => rfl, hb0, hN0⟩
  case round =>
    clear kl kt kv kg hb0 hN0
    obtain ⟨k, xs, hk, rfl, rfl, kl, kt, kv, kg, hdone, htodo, hb0, hN0⟩ := hrel
    by_cases hlt : k < 3
    · have q1 : (k : Int) < 3 := by omega
      obtain ⟨wo, hwo⟩ : ∃ wo, wo = wr := ⟨_, rfl⟩
      subst hwo
      have hxk := htodo k (Nat.le_refl _)
      have HDN := Lib.hid hdone
      have HTD := Lib.hid htodo
      obtain ⟨kr, hkr⟩ : ∃ kr, kr = k * R := ⟨_, rfl⟩
      have HKR := Lib.hid hkr
      have HISk := Lib.hid (show ∀ i (hi : i < rows.length), fI k (i + 1) = secT L.p pu (pw (kr + i)) (fI k i) (sideR rows[i] k) (sideR rows[i] k).length from fun i hi => by rw [hkr]; exact HIS.out k i hi)
      obtain ⟨fi, hfi⟩ : ∃ fi, fi = fI k := ⟨_, rfl⟩
      have HI0k := Lib.hid (show fi 0 = fK k by rw [hfi]; exact HI0.out k)
      have HKSk := Lib.hid (show fK (k + 1) = fi R by rw [hfi]; exact HKS.out k)
      rw [← hfi] at HISk
      obtain ⟨FP, hFP⟩ : ∃ FP : Nat → Nat, FP = fun i => pw (kr + i) := ⟨_, rfl⟩
      have HFP := Lib.hid (show ∀ i, pw (kr + i) = FP i from fun i => by rw [hFP])
      have HFX := Lib.hid (show ∀ i, FP i < 18446744073709551616 from fun i => by rw [hFP]; exact HPX.out _)
      have HFS := Lib.hid (show ∀ i, FP i * rho % L.p = FP (i + 1) from fun i => by rw [hFP]; exact HPS.out _)
      have HFL := Lib.hid (show (List.range R).map FP = pwL L.p R rho k by rw [hFP, hkr]; exact HPL.out k)
      have HFE := Lib.hid (show FP R = pw ((k + 1) * R) by rw [hFP, hkr, Nat.succ_mul])
      have HF0 := Lib.hid (show pw (k * R) = FP 0 by rw [hFP, hkr]; rfl)
      rw [HF0.out]
      have hself : updV xs k (.slice none 0 0) = xs := by rw [← hxk, updV_self]
      have kv1 : Blk wo gv 146 #[V0, updV xs k (.slice none 0 0) 0, updV xs k (.slice none 0 0) 1, updV xs k (.slice none 0 0) 2] := by rw [hself]; exact kv
      have ix := fun (w : World) (x y z : Value) => idx_lin (w := w) (x := x) (y := y) (z := z) hlt
      obtain ⟨k1, hk1⟩ : ∃ k1, k1 = k + 1 := ⟨_, rfl⟩
      have ek : (k : Int) + 1 = (k1 : Int) := by omega
      have ek2 : IntKind.i64.wrap (k1 : Int) = (k1 : Int) := wr_i64 _ (by omega) (by omega)
      have HK1 := Lib.hid hk1
      have qk : k1 < 4 := by omega
      have qk2 : (k1 : Int) < 4 := by omega
      have y1 : w.heap.size < wo.heap.size := by omega
      have y2 : w.heap.size + 1 < wo.heap.size := by omega
      have y3 : gv < wo.heap.size := by omega
      have y4 : gs < wo.heap.size := by omega
      clear hxk hself hdone htodo kv hk1 hkr hfi hFP
      have ct0 := kt.cell
      go_wp2_with fail
      clear ct0
      go_loopw [8, 10] (fun xv y wr => ∃ (i : Nat) (x : Value), i ≤ R ∧ y = .int .i64 (i : Int) ∧ xv = .int .u64 (FP i : Int) ∧ Blk wr gv 146 #[V0, updV xs k x 0, updV xs k x 1, updV xs k x 2] ∧ Blk wr gs 22 (fillC L.secret (fi i)) ∧ wr.ownsRow wo.heap.size 22 1 x i (U64 ((List.range i).map FP)) ∧ FromXX gv gs wo.heap.size wo wr) (fun _ y _ => R - (intOf y).toNat)
      case atStart => exact ⟨0, .slice none 0 0, by omega, rfl, rfl, kv1, by rw [HI0k.out]; exact kg, ⟨rfl, .inl ⟨rfl, rfl⟩⟩, fxx_refl _ _ _ _⟩
      case round =>
        clear kv1 kg
        obtain ⟨i, x, hi, rfl, rfl, kv, kg, hown, hfx⟩ := hrel
        have hsw : wo.heap.size ≤ wr.heap.size := hfx.1.size
        have ktr := fxx_blk kt hfx y2 (by omega) (by omega)
        have ct := ktr.cell
        have lt := ktr.lt
        by_cases hlti : i < R
        · have q2 : (i : Int) < (R : Int) := by omega
          have q3 : (0 : Int) ≤ (i : Int) := by omega
          have q4 : (0 : Int) ≤ (k1 : Int) := by omega
          have hli : i < rows.length := by have := HRR.out; omega
          obtain ⟨b, q, rfl⟩ := hrd.base (by omega) (by omega)
          obtain ⟨cs, -, hc, u0, u1, u2, rfl, hu0, hu1, hu2⟩ := hrd.get hli
          have hbw := World.block_lt_of_cell? _ _ ((hc 0 (by omega)).trans (show [u0, u1, u2][0]? = some u0 from rfl))
          have HUC := Lib.hid hc
          have HU := Lib.hid (show ∀ w', Below w.heap.size w w' → RLin w' [if k = 0 then u0 else if k = 1 then u1 else u2] (sideR rows[i] k) from fun w' hb => by
            unfold sideR
            rcases (show k = 0 ∨ k = 1 ∨ k = 2 by omega) with h | h | h <;> subst h
            · exact kept_RLin _ _ _ _ hb hu0
            · exact kept_RLin _ _ _ _ hb hu1
            · exact kept_RLin _ _ _ _ hb hu2)
          have ix1 := fun (w : World) => ix w u0 u1 u2
          obtain ⟨sel, hsel⟩ : ∃ sel, sel = (if k = 0 then u0 else if k = 1 then u1 else u2) := ⟨_, rfl⟩
          rw [← hsel] at HU ix1
          have hz0 := RSl.slc hu0
          have hz1 := RSl.slc hu1
          have hz2 := RSl.slc hu2
          have HISi := Lib.hid (HISk.out i hli)
          have HVi := Lib.hid (HVa.out i hli k hlt)
          obtain ⟨ts, hts⟩ : ∃ ts, ts = sideR rows[i] k := ⟨_, rfl⟩
          rw [← hts] at HU HISi HVi
          rw [HFP.out] at HISi
          have HSn := Lib.hid (range_snoc FP i)
          have HFSi := Lib.hid (HFS.out i)
          obtain ⟨xm, hxm⟩ : ∃ xm, xm = FP i := ⟨_, rfl⟩
          obtain ⟨xn, hxn⟩ : ∃ xn, xn = FP (i + 1) := ⟨_, rfl⟩
          rw [← hxm, ← hxn] at HFSi
          rw [← hxm] at HSn HISi ⊢
          have HXN := Lib.hid hxn
          have HMx := Lib.hid (fun w => by have := HM.out xm rho w; rw [HFSi.out] at this; exact this)
          clear hu0 hu1 hu2 hsel hts hxm hxn hc ix
          obtain ⟨Ax, cx, rfl, -⟩ := own_form hown
          have cv : wr.cell? ⟨gv, k1, none⟩ = some (.slice Ax i cx) := by
            rw [kv.cell, HK1.out, arr_get hlt]
            simp [updV]
          have lv := kv.lt
          have hvb : ∀ q, (Value.slice Ax i cx).ownBlock = some q → wo.heap.size ≤ q := fun q e => (hown.lt q e).1
          have hal := (Below.refl wr.heap.size wr).alloc (Nat.le_refl _) (.cells #[.int .u64 (xm : Int)] 22)
          go_wp2_with (at_builtin; refine wpl_append rfl _ _ rfl el_w rfl (hown.alloc _) rfl (rd_one _ _ _) (one_U64 [xm]) (by omega) (by simp; omega) ?_)
          intro v' wn hown' hgrow hblk
          have hsA : wo.heap.size ≤ (wr.alloc (.cells #[.int .u64 (xm : Int)] 22)).heap.size := by simp; omega
          replace kv := kv.below hal kv.lt
          replace kg := kg.below hal kg.lt
          replace kv := kv.grown hgrow (fun e => by first | (have := hvb _ e; omega) | (have := hvb _ e.symm; omega))
          replace kg := kg.grown hgrow (fun e => by first | (have := hvb _ e; omega) | (have := hvb _ e.symm; omega))
          replace hfx := fxx_trans (fxx_trans hfx (fxx_below hal hsw)) (fxx_grown hgrow (fun q e => .inr (.inr (hvb q e))) hsA)
          replace hown' : wn.ownsRow wo.heap.size 22 1 v' (i + 1) (U64 ((List.range (i + 1)).map FP)) := lw_app (b := [xm]) hown' HSn.out
          obtain ⟨Aw, cw, rfl, -⟩ := own_form hown'
          have hsn : wo.heap.size ≤ wn.heap.size := hfx.1.size
          clear hown hgrow hblk hal hsA cv lv ct lt ktr
          have cv : wn.cell? ⟨gv, k1, none⟩ = some (.slice Ax i cx) := by
            rw [kv.cell, HK1.out, arr_get hlt]
            simp [updV]
          have fv2 := kv.frozen
          have ktr := fxx_blk kt hfx y2 (by omega) (by omega)
          have ct := ktr.cell
          go_upto_region 11 with fail
          have hsg := set_only (w := wn) gv k1 (.slice Aw (i + 1) cw)
          replace kv := kv.set_ k1 (.slice Aw (i + 1) cw)
          rw [HK1.out, arr_set hlt, updV_twice, ← HK1.out] at kv
          replace kg := kg.grown hsg (fun e => by have := Option.some.inj e; omega)
          have hown2 := own_stay hown' hsg y3
          replace hfx := fxx_trans hfx (fxx_grown hsg (fun q e => .inl (Option.some.inj e).symm) hsn)
          clear hown' hsg cv fv2 ct ktr
          generalize wn.setCell _ _ = w5 at kv kg hown2 hfx ⊢
          have hb5 := fxx_to hb0 hfx (by omega) (by omega) (by omega)
          have hcu := HUC.out
          have h0 := (hb5.cell (p := ⟨b, q + i * 3 + 0, none⟩) hbw).trans (hcu 0 (by omega))
          have h1 := (hb5.cell (p := ⟨b, q + i * 3 + 1, none⟩) hbw).trans (hcu 1 (by omega))
          have h2 := (hb5.cell (p := ⟨b, q + i * 3 + 2, none⟩) hbw).trans (hcu 2 (by omega))
          rw [Nat.add_zero] at h0
          simp only [List.getElem?_cons_zero, List.getElem?_cons_succ] at h0 h1 h2
          have ktr := fxx_blk kt hfx y2 (by omega) (by omega)
          have ct := ktr.cell
          have hs5 : wo.heap.size ≤ w5.heap.size := hfx.1.size
          clear hcu
          go_wp2_with fail
          refine (HSd.out u0 u1 u2 _ hz0 hz1 hz2).mono ?_
          rintro e w6 ⟨rfl, hbx⟩
          replace kv := kv.below hbx kv.lt
          replace kg := kg.below hbx kg.lt
          replace hown2 := own_below hown2 hbx (Nat.le_refl _)
          replace hfx := fxx_trans hfx (fxx_below hbx hs5)
          clear h0 h1 h2 ct ktr hbx hb5 hs5
          have hb6 := fxx_to hb0 hfx (by omega) (by omega) (by omega)
          obtain ⟨As, ns, cs1, rfl⟩ := RSl.slc (HU.out _ hb6)
          have hrl := HU.out _ (Below.refl _ _)
          obtain ⟨A', n', c', he, hln, hnc, hcx, hrt⟩ := hrl
          simp at he
          obtain ⟨rfl, rfl, rfl⟩ := he
          have gns := lw_max hnc hcx
          have HNS := Lib.hid hln
          obtain ⟨fT, hfT⟩ : ∃ fT, fT = secT L.p pu xm (fi i) ts := ⟨_, rfl⟩
          have HT0 := Lib.hid (show fT 0 = fi i by rw [hfT]; rfl)
          have HTS := Lib.hid (show ∀ t, fT (t + 1) = termF L.p pu xm (fT t) (ts.getD t (0, 0)) from fun t => by rw [hfT]; rfl)
          have HFN := Lib.hid (show fi (i + 1) = fT ns by rw [hfT, ← hln]; exact HISi.out)
          clear hfT hln hnc hcx hb6 HISi
          go_wp2_with fail
          go_loopw [12] (fun y wr => ∃ t : Nat, t ≤ ns ∧ y = .int .i64 (t : Int) ∧ Blk wr gv 146 #[V0, updV xs k (.slice Aw (i + 1) cw) 0, updV xs k (.slice Aw (i + 1) cw) 1, updV xs k (.slice Aw (i + 1) cw) 2] ∧ Blk wr gs 22 (fillC L.secret (fT t)) ∧ wr.ownsRow wo.heap.size 22 1 (.slice Aw (i + 1) cw) (i + 1) (U64 ((List.range (i + 1)).map FP)) ∧ FromXX gv gs wo.heap.size wo wr) (fun y _ => ns - (intOf y).toNat)
          case atStart => exact ⟨0, Nat.zero_le _, rfl, kv, by rw [HT0.out]; exact kg, hown2, hfx⟩
          case round =>
            clear kv kg hown2 hfx
            obtain ⟨t, ht, rfl, kv, kg, hown2, hfx⟩ := hrel
            have hswr : wo.heap.size ≤ wr.heap.size := hfx.1.size
            have hbo := fxx_to hb0 hfx (by omega) (by omega) (by omega)
            by_cases htn : t < ns
            · have q5 : (t : Int) < (ns : Int) := by omega
              have q6 : (0 : Int) ≤ (t : Int) := by omega
              have htl : t < ts.length := by rw [HNS.out]; exact htn
              obtain ⟨b', q', rfl⟩ := hrt.base (by omega) (by omega)
              obtain ⟨c1', c2'⟩ := RLin.at_ (hrt.below kept_RTerm hbo) htl
              have hv := HVi.out t htl
              have HTt := Lib.hid (HTS.out t)
              revert c1' c2' hv HTt
              generalize ts.getD t (0, 0) = tm
              obtain ⟨v, co⟩ := tm
              intro c1' c2' hv HTt
              simp only at c1' c2' hv
              have hbl' := World.block_lt_of_cell? _ _ c1'
              simp only at hbl'
              obtain ⟨v1, hv1⟩ : ∃ v1, v1 = v - 1 := ⟨_, rfl⟩
              obtain ⟨v2, hv2⟩ : ∃ v2, v2 = v1 - (pu : Int) := ⟨_, rfl⟩
              have hsec := HSEC.out
              have y1' : v - 1 = v1 := hv1.symm
              have y2' : IntKind.i64.wrap v1 = v1 := wr_i64 _ (by omega) (by omega)
              have y3' : v1 - (pu : Int) = v2 := hv2.symm
              have y4' : IntKind.i64.wrap v2 = v2 := wr_i64 _ (by omega) (by omega)
              have HTF := Lib.hid (show fT (t + 1) = if 0 ≤ v2 then putF (fT t) v2.toNat ((fT t v2.toNat + negP L.p (xm * co % L.p)) % L.p) else fT t by rw [HTt.out, hv2, hv1]; rfl)
              have hv3 : v2 < (L.secret : Int) := by omega
              have ktr := fxx_blk kt hfx y2 (by omega) (by omega)
              have ct := ktr.cell
              have lt := ktr.lt
              clear hv1 hv2 hsec hv HTt
              go_upto_region 15 with fail
              refine wpO_begin (Later) [] [0, 1, 2, 3, 4, 5, 6, 7, 8, 9] (by kernel_rfl) (by kernel_rfl) ?_
              refine wpO_startK (later_moves) ?_
              intro Wc HWc hacc
              have hbW : Below wr.heap.size wr Wc := by rw [HWc.out]; exact (Below.refl _ _).drew
              repeat (first | (refine wpO_skip (later_moves) rfl rfl (fun _ _ _ h => h) ?_ ; simp only [Act.put, List.setIfInBounds_toArray, List.set_cons_zero, List.set_cons_succ]) | (refine wpO_light (v := ?_) (later_moves) rfl rfl (fun _ _ _ h => h) ?_ ?_ ; rotate_left ; (· (intro w' hR ; (first | have hcells := later_cellsD ((later_moves).trans _ _ _ hacc hR) | skip) ; go_simp ; try with_reducible rfl)) ; simp only [Act.put, List.setIfInBounds_toArray, List.set_cons_zero, List.set_cons_succ]))
              refine wpO_done ?_
              have c2w := (hbW.cell (p := ⟨b', q' + t * 2 + 1, none⟩) hbl').trans c2'
              replace hbl' := Nat.lt_of_lt_of_le hbl' hbW.size
              replace kv := kv.below hbW kv.lt
              replace kg := kg.below hbW kg.lt
              replace hown2 := own_below hown2 hbW (Nat.le_refl _)
              replace hfx := fxx_trans hfx (fxx_below hbW hswr)
              clear ct lt ktr hacc c1' c2'
              have hs7 : wo.heap.size ≤ Wc.heap.size := hfx.1.size
              generalize Wc = w7 at kv kg hown2 hfx c2w hbl' hs7 ⊢
              by_cases hz : 0 ≤ v2
              · have d1 : decide ((0 : Int) ≤ v2) = true := decide_eq_true hz
                obtain ⟨s, rfl⟩ := Int.eq_ofNat_of_zero_le hz
                have hsl : s < L.secret := by omega
                obtain ⟨a, ha⟩ : ∃ a, a = fT t s := ⟨_, rfl⟩
                obtain ⟨u, hu⟩ : ∃ u, u = xm * co % L.p := ⟨_, rfl⟩
                obtain ⟨r, hr⟩ : ∃ r, r = (a + negP L.p u) % L.p := ⟨_, rfl⟩
                have HST := Lib.hid (show (fillC L.secret (fT t)).setIfInBounds s (.int .u64 (r : Int)) = fillC L.secret (fT (t + 1)) by
                  rw [fill_set, HTF.out, if_pos hz, Int.toNat_natCast, hr, hu, ha])
                have HM1 : Hid (∀ w : World, Calls Tryz.prog 101 #[.int .u64 (L.p : Int), .int .u64 (xm : Int), .int .u64 (co : Int)] w fun e w' => e = .returned (.int .u64 (u : Int)) ∧ Below w.heap.size w w') := Lib.hid (fun w => by rw [hu]; exact HM.out xm co w)
                have HS1 : Hid (∀ w : World, Calls Tryz.prog 62 #[.int .u64 (L.p : Int), .int .u64 (a : Int), .int .u64 (u : Int)] w fun e w' => e = .returned (.int .u64 (r : Int)) ∧ Below w.heap.size w w') := Lib.hid (fun w => by rw [hr]; exact HS.out a u w)
                have HA := Lib.hid ha
                clear hu hr ha
                go_upto_region 17 with fail
                have ktr := fxx_blk kt hfx y2 (by omega) (by omega)
                have ct := ktr.cell
                have lt := ktr.lt
                have cv := kv.cell 0
                have lv := kv.lt
                rw [show (#[V0, updV xs k (.slice Aw (i + 1) cw) 0, updV xs k (.slice Aw (i + 1) cw) 1, updV xs k (.slice Aw (i + 1) cw) 2] : Array Value)[0]? = some V0 from rfl, HV0.out] at cv
                have cg := kg.cell s
                rw [fill_get _ hsl, ← HA.out] at cg
                have lg := kg.lt
                refine wpGO_begin (Later) (later_moves) [21] [21] [0, 1, 2, 3, 4, 5, 6, 7, 8, 9, 10, 11, 12, 13, 14, 15, 16, 17, 18, 19, 20, 21] (by kernel_rfl) (by kernel_rfl) ?_
                refine wpGO_start (later_moves) ?_
                intro Wc hacc
                repeat (first | (refine wpGO_skip (later_moves) rfl rfl rfl rfl (fun _ _ _ h => h) ?_ ; simp only [Act.put, List.setIfInBounds_toArray, List.set_cons_zero, List.set_cons_succ]) | (refine wpGO_light (v := ?_) (later_moves) rfl rfl rfl rfl (fun _ _ _ h => h) ?_ ?_ ; rotate_left ; (· (intro w' hR ; (first | have hcells := later_cellsD ((later_moves).trans _ _ _ hacc hR) | skip) ; go_simp ; try with_reducible rfl)) ; simp only [Act.put, List.setIfInBounds_toArray, List.set_cons_zero, List.set_cons_succ]) | (refine wpGO_free (v := ?_) rfl rfl rfl rfl (fun _ _ _ h => h) ?_ ?_ ; rotate_left ; (· (intro w' ; go_simp ; try with_reducible rfl)) ; simp only [Act.put, List.setIfInBounds_toArray, List.set_cons_zero, List.set_cons_succ]))
                refine wpGO_call (later_moves) rfl rfl rfl rfl (fun _ _ _ h => h) (fun _ => by go_simp <;> rfl) (fun w' hR => HM1.out _) ?_
                simp only [Act.put, List.setIfInBounds_toArray, List.set_cons_zero, List.set_cons_succ]
                repeat (first | (refine wpGO_skip (later_moves) rfl rfl rfl rfl (fun _ _ _ h => h) ?_ ; simp only [Act.put, List.setIfInBounds_toArray, List.set_cons_zero, List.set_cons_succ]) | (refine wpGO_light (v := ?_) (later_moves) rfl rfl rfl rfl (fun _ _ _ h => h) ?_ ?_ ; rotate_left ; (· (intro w' hR ; (first | have hcells := later_cellsD ((later_moves).trans _ _ _ hacc hR) | skip) ; go_simp ; try with_reducible rfl)) ; simp only [Act.put, List.setIfInBounds_toArray, List.set_cons_zero, List.set_cons_succ]) | (refine wpGO_free (v := ?_) rfl rfl rfl rfl (fun _ _ _ h => h) ?_ ?_ ; rotate_left ; (· (intro w' ; go_simp ; try with_reducible rfl)) ; simp only [Act.put, List.setIfInBounds_toArray, List.set_cons_zero, List.set_cons_succ]))
                refine wpGO_call (later_moves) rfl rfl rfl rfl (fun _ _ _ h => h) (fun _ => by go_simp <;> rfl) (fun w' hR => HS1.out _) ?_
                simp only [Act.put, List.setIfInBounds_toArray, List.set_cons_zero, List.set_cons_succ]
                repeat (first | (refine wpGO_skip (later_moves) rfl rfl rfl rfl (fun _ _ _ h => h) ?_ ; simp only [Act.put, List.setIfInBounds_toArray, List.set_cons_zero, List.set_cons_succ]) | (refine wpGO_light (v := ?_) (later_moves) rfl rfl rfl rfl (fun _ _ _ h => h) ?_ ?_ ; rotate_left ; (· (intro w' hR ; (first | have hcells := later_cellsD ((later_moves).trans _ _ _ hacc hR) | skip) ; go_simp ; try with_reducible rfl)) ; simp only [Act.put, List.setIfInBounds_toArray, List.set_cons_zero, List.set_cons_succ]) | (refine wpGO_free (v := ?_) rfl rfl rfl rfl (fun _ _ _ h => h) ?_ ?_ ; rotate_left ; (· (intro w' ; go_simp ; try with_reducible rfl)) ; simp only [Act.put, List.setIfInBounds_toArray, List.set_cons_zero, List.set_cons_succ]))
                refine wpGO_heavy rfl rfl rfl rfl ?_
                intro wh hRh
                replace hacc := (later_moves).trans _ _ _ hacc hRh
                have hxd := below_chain (Below.refl w7.heap.size w7).drew hacc
                replace kv := kv.below hxd kv.lt
                replace kg := kg.below hxd kg.lt
                replace hown2 := own_below hown2 hxd (Nat.le_refl _)
                replace hfx := fxx_trans hfx (fxx_below hxd hs7)
                clear hxd hacc hRh ct lt ktr cv lv cg lg
                have c3 := kg.cell s
                rw [fill_get _ hsl] at c3
                have f3 := kg.frozen
                have hs8 : wo.heap.size ≤ wh.heap.size := hfx.1.size
                go_simp
                refine ⟨fun h => Bool.noConfusion h, ?_⟩
                have hg := set_only (w := wh) gs s (.int .u64 (r : Int))
                replace kg := kg.set_ s (.int .u64 (r : Int))
                rw [HST.out] at kg
                replace kv := kv.grown hg (fun e => by have := Option.some.inj e; omega)
                have hown3 := own_stay hown2 hg y4
                replace hfx := fxx_trans hfx (fxx_grown hg (fun q e => .inr (.inl (Option.some.inj e).symm)) hs8)
                clear hg f3 c3 hown2
                generalize wh.setCell _ _ = we at kg kv hown3 hfx ⊢
                refine wpGO_doneP rfl ?_
                go_wp2_with fail
                go_roundw
                case rel => exact ⟨t + 1, by omega, by go_num, kv, kg, hown3, hfx⟩
                case measure => simp [intOf]; omega
              · have d1 : decide ((0 : Int) ≤ v2) = false := decide_eq_false hz
                have HTF2 := Lib.hid (show fT (t + 1) = fT t by rw [HTF.out, if_neg hz])
                go_wp2_with fail
                go_roundw
                case rel => exact ⟨t + 1, by omega, by go_num, kv, by rw [HTF2.out]; exact kg, hown2, hfx⟩
                case measure => simp [intOf]; omega
            · obtain rfl : t = ns := by omega
              have q5 : ¬ ((t : Int) < (t : Int)) := by omega
              rw [← HFN.out] at kg
              have ktr := fxx_blk kt hfx y2 (by omega) (by omega)
              have ct := ktr.cell
              go_wp2_with fail
              refine (HMx.out _).mono ?_
              rintro e w8 ⟨rfl, hbx⟩
              replace kv := kv.below hbx kv.lt
              replace kg := kg.below hbx kg.lt
              replace hown2 := own_below hown2 hbx (Nat.le_refl _)
              replace hfx := fxx_trans hfx (fxx_below hbx hswr)
              go_wp2_with fail
              go_roundw
              case rel => exact ⟨i + 1, _, by omega, by go_num, by rw [← HXN.out], kv, kg, hown2, hfx⟩
              case measure => simp [intOf]; omega
        · obtain rfl : i = R := by omega
          have q2 : ¬ ((i : Int) < (i : Int)) := by omega
          rw [← HKSk.out] at kg
          have klr := fxx_blk kl hfx y1 (by omega) (by omega)
          have hbr := fxx_to hb0 hfx (by omega) (by omega) (by omega)
          have hx := rwx_own (N := gs + 1) (gb := none) hown (fun x hx => by obtain ⟨m, -, rfl⟩ := List.mem_map.1 hx; exact HFX.out m) (by omega) (fun q e => by cases e)
          rw [HFL.out] at hx
          have HD2 := Lib.hid (show ∀ j, j < k + 1 → RWx (gs + 1) none wr (updV xs k x j) (pwL L.p i rho j) from fun j hj => by
            unfold updV
            split
            · rename_i h; rw [h]; exact hx
            · rename_i h
              refine rwx_keep (HDN.out j (by omega)) hsw fun b h1 h2 _ => hfx.2 b h2 (by omega) (by omega))
          have HT2 := Lib.hid (show ∀ j, k + 1 ≤ j → updV xs k x j = .slice none 0 0 from fun j hj => by
            unfold updV
            rw [if_neg (by omega)]
            exact HTD.out j (by omega))
          clear hx hown
          go_wp2_with fail
          go_roundw
          case rel => exact ⟨k + 1, updV xs k x, by omega, by go_num, by rw [HFE.out], klr, ktr, kv, kg, HD2.out, HT2.out, hbr, by omega⟩
          case measure => simp [intOf]; omega
    · obtain rfl : k = 3 := by omega
      have h0 := rwx_here (hdone 0 (by omega))
      have h1 := rwx_here (hdone 1 (by omega))
      have h2 := rwx_here (hdone 2 (by omega))
      obtain ⟨A1, c1, e1⟩ := rwd_form h0
      obtain ⟨A2, c2, e2⟩ := rwd_form h1
      obtain ⟨A3, c3, e3⟩ := rwd_form h2
      have hS := fill_rwd kg (fun m _ => HKX.out 3 m) (by simp [maxLen]; omega)
      rw [← HV0.out] at hS
      have HH := Lib.hid (fun (w' : World) (hb : Below wr.heap.size wr w') => HCut.out V0 (xs 0) (xs 1) (xs 2) _ _ _ _ w' (sel_all (kept_RWd _ _ _ _ hb hS) (kept_RWd _ _ _ _ hb h0) (kept_RWd _ _ _ _ hb h1) (kept_RWd _ _ _ _ hb h2)))
      rw [e1, e2, e3, HV0.out] at kv HH
      have cl := kl.cell
      have cv := kv.cell
      have ll := kl.lt
      have lv := kv.lt
      clear hdone htodo h0 h1 h2 hS e1 e2 e3
      go_wp2_with fail
      refine (HH.out _ (Below.refl _ _)).mono ?_
      rintro e w9 ⟨v, rfl, hv, hbx⟩
      go_wp2
      go_ret
      exact ⟨v, rfl, hv, below_chain hb0 hbx⟩
def wtF (p : Nat) (cs : List (List Nat)) (i : Nat) : List Nat := (List.range (cs.getD i []).length).map (intR p (cs.getD i []) 1)
def wtD (p : Nat) (cs : List (List Nat)) : List (List Nat) := (List.range cs.length).map (wtF p cs)
theorem coefD_len (L : LayR) (pu rho : Nat) (rows : List RowR) : (coefD L pu rho rows).length = L.a + L.b + L.b + L.b := by
  unfold coefD cutL
  rw [cutPre_len, cutPre_len, cutPre_len, cutPre_len]
  simp [cutPre, sel4]
theorem coefD_row {L : LayR} {pu rho : Nat} {rows : List RowR} : ∀ r ∈ coefD L pu rho rows, r.length = L.block := fun r h => by
  unfold coefD at h
  obtain ⟨i, k, -, -, rfl⟩ := cutL_mem h
  simp [cutRow]
set_option maxRecDepth 100000 in
set_option maxHeartbeats 1000000 in
theorem rWeights_any (L : LayR) (pu rho : Nat) (vars : Int) (A : Option Addr) (R c : Nat) (rows : List RowR) (w : World) (hL : LayOk L) (hF : TabFor L pu vars rows) (hr : RSl 3 RRow w [.slice A R c] rows) (hV : VarsOk vars rows) :
    Calls Tryz.prog 48 #[.agg (layCs L), tabV L.p (pu : Int) vars (.slice A R c), .int .u64 (rho : Int)] w fun e w' => ∃ v, e = .returned v ∧ RRows w' [v] (wtD L.p (coefD L pu rho rows)) ∧ Below w.heap.size w w' := by
  obtain ⟨hp1, hp2⟩ := okP_lt hL.p
  have hla := hL.a
  have hlb := hL.b
  have hb2 := hL.b2
  obtain ⟨hlen, -⟩ := layLen hL
  have HC := Lib.hid (fun w' (hb : Below w.heap.size w w') => rCoefs_any L pu rho vars A R c rows w' hL hF (kept_RSl kept_RRow _ _ _ _ hb hr) hV)
  have HI := Lib.hid (fun A c l w hl => rInterpolate_any L.p 1 L.block A c l w hL.p hl hlen (by rw [Nat.mod_eq_of_lt (by omega)]; decide))
  have HIL := Lib.hid (show ∀ l, ∀ x ∈ (List.range L.block).map (intR L.p l 1), x < 18446744073709551616 from fun l x hx => by
    obtain ⟨i, -, rfl⟩ := List.mem_map.1 hx
    exact Nat.lt_trans (intR_lt (by omega) _ _ _) hp2)
  obtain ⟨cs0, hcs0⟩ : ∃ cs, cs = coefD L pu rho rows := ⟨_, rfl⟩
  have HCL := Lib.hid (show cs0.length ≤ 400000 by rw [hcs0, coefD_len]; omega)
  have HCR := Lib.hid (show ∀ r ∈ cs0, r.length = L.block by rw [hcs0]; exact coefD_row)
  rw [← hcs0] at HC ⊢
  obtain ⟨f, hf⟩ : ∃ f, f = wtF L.p cs0 := ⟨_, rfl⟩
  have HFI := Lib.hid (show ∀ i (h : i < cs0.length), f i = (List.range L.block).map (intR L.p cs0[i] 1) from fun i h => by
    rw [hf]
    unfold wtF
    rw [getD_at h, HCR.out _ (List.getElem_mem h)])
  have HRF := Lib.hid (rangeF_next f)
  have HEnd := Lib.hid (show wtD L.p cs0 = (List.range cs0.length).map f by rw [hf]; rfl)
  rw [HEnd.out]
  clear hcs0 hf hL hF hr hV hla hlb hlen hp1 hp2 HEnd
  unfold layCs tabV at *
  obtain ⟨kl, kt, hb0, -⟩ := boxes2 w 39 25 #[.int .u64 (L.p : Int), .int .i64 (L.block : Int), .int .i64 (L.queries : Int), .int .i64 (L.k : Int), .int .i64 (L.n : Int), .int .i64 (L.secret : Int), .int .i64 (L.rows : Int), .int .i64 (L.a : Int), .int .i64 (L.b : Int), .int .i64 (L.b : Int), .int .i64 (L.b : Int)] #[.int .u64 (L.p : Int), .int .i64 (pu : Int), .int .i64 vars, .slice A R c]
  go_enter Tryz.func48, Tryz.ntmps48
  go_upto_region 1 with fail
  generalize (w.alloc _).alloc _ = w1 at kl kt hb0 ⊢
  have cl := kl.cell
  have ct := kt.cell
  go_wp2_with fail
  refine (HC.out _ hb0).mono ?_
  rintro e w2 ⟨vC, rfl, hC, hbx⟩
  replace kl := kl.below hbx kl.lt
  replace hb0 := below_chain hb0 hbx
  clear hbx cl ct kt HC
  obtain ⟨AC, nC, cC, rfl⟩ := RSl.slc hC
  obtain ⟨hCn, -, -, hCd⟩ := rows_at hC
  have gC : (nC : Int) ≤ 400000 := by have := HCL.out; omega
  have HCN := Lib.hid hCn
  clear hCn hC
  go_wp2_with fail
  go_loopw [7, 9] (fun u y wr => ∃ (i : Nat) (v : Value) (cs : List Value), v = u ∧ i ≤ nC ∧ y = .int .i64 (i : Int) ∧ wr.ownsRow w2.heap.size 28 1 v i cs ∧ GRows 0 wr v cs ((List.range i).map f) ∧ Below w2.heap.size w2 wr) (fun _ y _ => nC - (intOf y).toNat)
  case atStart => exact ⟨0, _, [], rfl, Nat.zero_le _, rfl, ⟨rfl, .inl ⟨rfl, rfl⟩⟩, grows_nil _ _ _, Below.refl _ _⟩
  case round =>
    obtain ⟨i, v, cs, rfl, hi, rfl, hown, hgr, hb⟩ := hrel
    by_cases hlt : i < nC
    · have q1 : (i : Int) < (nC : Int) := by omega
      have q2 : (0 : Int) ≤ (i : Int) := by omega
      have hia : i < cs0.length := by rw [HCN.out]; exact hlt
      obtain ⟨b1, q1', A1, n1, c1, rfl, hbl1, hc1, hm1⟩ := rows_get hCd hia
      have z1 := (lw_at hm1).1
      have hn1 : n1 = L.block := by rw [z1]; exact HCR.out _ (List.getElem_mem hia)
      subst hn1
      have hm2 := kept_RWd _ _ _ _ hb hm1
      have cc1 := (hb.cell (p := ⟨b1, q1' + i, none⟩) hbl1).trans hc1
      have lb1 : b1 < wr.heap.size := Nat.lt_of_lt_of_le hbl1 hb.size
      have HFi := Lib.hid (HFI.out i hia)
      have HRi := Lib.hid (HRF.out i)
      obtain ⟨x, hx⟩ : ∃ x, x = cs0[i] := ⟨_, rfl⟩
      rw [← hx] at hm2 HFi
      have HLx := Lib.hid (HIL.out x)
      rw [← HFi.out] at HLx
      have HI1 : Hid (∀ w' : World, RWd w' [.slice A1 L.block c1] x → Calls Tryz.prog 104 #[.int .u64 (L.p : Int), .slice A1 L.block c1, .int .u64 1] w' fun e w2 => ∃ v, e = .returned (.tuple #[v, .int .i64 0]) ∧ w2.ownsRow w'.heap.size 22 1 v L.block (U64 (f i)) ∧ Below w'.heap.size w' w2) := Lib.hid (fun w' h => by rw [HFi.out]; exact HI.out A1 c1 x w' h)
      obtain ⟨fi, hfi⟩ : ∃ fi, fi = f i := ⟨_, rfl⟩
      rw [← hfi] at HLx HI1 HRi
      clear hx z1 hc1 hm1 hfi HFi
      have kl1 := kl.below hb kl.lt
      have cl := kl1.cell
      have ll := kl1.lt
      go_upto_region 6 with fail
      refine wpO_begin (Later) [6] [0, 1, 2, 3, 4, 5, 6, 7, 8, 9, 10, 11] (by kernel_rfl) (by kernel_rfl) ?_
      refine wpO_startK (later_moves) ?_
      intro Wc HWc hacc
      have hbW : Below wr.heap.size wr Wc := by rw [HWc.out]; exact (Below.refl _ _).drew
      replace hown := own_below hown hbW (Nat.le_refl _)
      replace hgr := grows_below hgr hbW
      replace hb := below_chain hb hbW
      replace hm2 := kept_RWd _ _ _ _ hbW hm2
      repeat (first | (refine wpO_skip (later_moves) rfl rfl (fun _ _ _ h => h) ?_ ; simp only [Act.put, List.setIfInBounds_toArray, List.set_cons_zero, List.set_cons_succ]) | (refine wpO_light (v := ?_) (later_moves) rfl rfl (fun _ _ _ h => h) ?_ ?_ ; rotate_left ; (· (intro w' hR ; (first | have hcells := later_cellsD ((later_moves).trans _ _ _ hacc hR) | skip) ; go_simp ; try with_reducible rfl)) ; simp only [Act.put, List.setIfInBounds_toArray, List.set_cons_zero, List.set_cons_succ]))
      refine wpO_call (later_moves) rfl rfl rfl (fun _ => by go_simp <;> rfl) ((HI1.out _ hm2).mono ?_)
      rintro e w7 ⟨v7, rfl, o7, hb7⟩
      refine ⟨_, rfl, hb7, ?_⟩
      replace hacc := (later_moves).trans _ _ _ hacc (hb7)
      simp only [Act.put, List.setIfInBounds_toArray, List.set_cons_zero, List.set_cons_succ]
      obtain ⟨A7, c7, rfl, -⟩ := own_form o7
      have hx := rwx_own (N := 0) (gb := v.ownBlock) o7 HLx.out (Nat.zero_le _) (fun q e => (hown.lt q e).2)
      replace hown := own_below hown hb7 (Nat.le_refl _)
      replace hgr := grows_below hgr hb7
      replace hb := below_chain hb hb7
      repeat (first | (refine wpO_skip (later_moves) rfl rfl (fun _ _ _ h => h) ?_ ; simp only [Act.put, List.setIfInBounds_toArray, List.set_cons_zero, List.set_cons_succ]) | (refine wpO_light (v := ?_) (later_moves) rfl rfl (fun _ _ _ h => h) ?_ ?_ ; rotate_left ; (· (intro w' hR ; (first | have hcells := later_cellsD ((later_moves).trans _ _ _ hacc hR) | skip) ; go_simp ; try with_reducible rfl)) ; simp only [Act.put, List.setIfInBounds_toArray, List.set_cons_zero, List.set_cons_succ]))
      refine wpO_done ?_
      clear hbW hb7 hacc HWc cc1 lb1 cl ll hm2 o7
      go_wp2_with (at_builtin; refine wpl_append rfl _ _ rfl el_ww rfl (hown.alloc _) rfl (rd_one _ _ _) (by intro u hu; simp at hu; subst hu; rfl) (by omega) (by simp; have := hb.size; omega) ?_)
      intro v' wn hown' hgrow hblk
      have hal := (Below.refl w7.heap.size w7).alloc (Nat.le_refl _) (.cells #[.slice A7 L.block c7] 28)
      have hBx := lw_grow (hown.alloc _) hgrow (by simp; have := hb.size; omega)
      replace hgr := grows_below hgr hal
      replace hx := rwx_keep hx hal.size (fun b _ h2 _ => hal.block b h2)
      have hgn := grows_app hgr hx hgrow (by simpa using hblk)
      rw [HRi.out] at hgn
      replace hb := (below_chain hb hal).trans hBx
      clear hal hgrow hblk hBx hgr hx hown
      go_wp2
      go_roundw
      case rel => exact ⟨i + 1, v', _, rfl, by omega, by go_num, hown', hgn, hb⟩
      case measure => simp [intOf]; omega
    · obtain rfl : i = nC := by omega
      have q1 : ¬ ((i : Int) < (i : Int)) := by omega
      have hend := grows_done hgr hown
      go_wp2
      go_ret
      exact ⟨_, rfl, by rw [HCN.out]; exact hend, hb0.trans (hb.mono hb0.size)⟩
set_option maxRecDepth 100000 in
set_option maxHeartbeats 1000000 in
theorem rRows26_any (L : LayR) (D0 D1 D2 D3 D4 AM : Option Addr) (n0 n1 n2 n3 n4 nM k0 k1 k2 k3 k4 cM : Nat) (m r : List (List Nat)) (w : World) (hL : LayOk L)
    (hm : RRows w [.slice AM nM cM] m) (hr : RRows w [.slice D0 n0 k0] r)
    (hlen : m.length = r.length) (hml : ∀ x ∈ m, x.length = L.block) (hrl : ∀ x ∈ r, x.length ≤ 2000) (hT : m.length ≤ 400000) :
    Calls Tryz.prog 40 #[.agg (layCs L), .slice AM nM cM, .agg #[.slice D0 n0 k0, .slice D1 n1 k1, .slice D2 n2 k2, .slice D3 n3 k3, .slice D4 n4 k4]] w fun e w' => ∃ v, e = .returned v ∧ RRows w' [v] ((List.range m.length).map (rowsF L m r)) ∧ Below w.heap.size w w' := by
  have hpp := okP_lt hL.p
  obtain ⟨hmn, -, -, hMd⟩ := rows_at hm
  obtain ⟨hrn, -, -, hRd⟩ := rows_at hr
  subst hmn
  subst hrn
  have HRow := Lib.hid (fun A B n c m d msg masks w hl hk hn hm => rRow25_own L A B n c m d msg masks w hL hl hk hn hm)
  have HRT := Lib.hid (show ∀ a b, ∀ x ∈ rowR L a b, x < 18446744073709551616 from fun a b => padP_lt (by omega) fun x hx => Nat.lt_trans (trimP_lt (by omega) hx) hpp.2)
  have HLEN := Lib.hid hlen
  have HML := Lib.hid hml
  have HRL := Lib.hid hrl
  have HRF := Lib.hid (rangeF_next (rowsF L m r))
  have HRG := Lib.hid (show ∀ i (h1 : i < m.length) (h2 : i < r.length), rowR L m[i] r[i] = rowsF L m r i from fun i h1 h2 => by
    unfold rowsF
    rw [List.getD_eq_getElem?_getD, List.getD_eq_getElem?_getD, List.getElem?_eq_getElem h1, List.getElem?_eq_getElem h2]
    rfl)
  obtain ⟨rf, hrf⟩ : ∃ rf, rf = rowsF L m r := ⟨_, rfl⟩
  rw [← hrf] at HRF HRG ⊢
  clear hL hlen hml hrl hpp hrf hm hr
  unfold layCs at *
  obtain ⟨kl, kc, hb0, hsz⟩ := boxes2 w 39 42 #[.int .u64 (L.p : Int), .int .i64 (L.block : Int), .int .i64 (L.queries : Int), .int .i64 (L.k : Int), .int .i64 (L.n : Int), .int .i64 (L.secret : Int), .int .i64 (L.rows : Int), .int .i64 (L.a : Int), .int .i64 (L.b : Int), .int .i64 (L.b : Int), .int .i64 (L.b : Int)] #[.slice D0 r.length k0, .slice D1 n1 k1, .slice D2 n2 k2, .slice D3 n3 k3, .slice D4 n4 k4]
  go_enter Tryz.func40, Tryz.ntmps40
  go_upto_region 1 with fail
  generalize (w.alloc _).alloc _ = w1 at kl kc hb0 hsz ⊢
  obtain ⟨N, hN⟩ : ∃ N, N = w1.heap.size := ⟨_, rfl⟩
  have x1 : w.heap.size < N := by omega
  have x2 : w.heap.size + 1 < N := by omega
  have x3 : w.heap.size ≠ N := by omega
  have x4 : w.heap.size + 1 ≠ N := by omega
  have hNw : N ≤ w1.heap.size := by omega
  clear hsz hN
  go_wp2_with fail
  go_loopw [7, 8] (fun u y wr => ∃ (i : Nat) (v : Value) (cs : List Value), v = u ∧ i ≤ m.length ∧ y = .int .i64 (i : Int) ∧ Blk wr w.heap.size 39 #[.int .u64 (L.p : Int), .int .i64 (L.block : Int), .int .i64 (L.queries : Int), .int .i64 (L.k : Int), .int .i64 (L.n : Int), .int .i64 (L.secret : Int), .int .i64 (L.rows : Int), .int .i64 (L.a : Int), .int .i64 (L.b : Int), .int .i64 (L.b : Int), .int .i64 (L.b : Int)] ∧ Blk wr (w.heap.size + 1) 42 #[.slice D0 r.length k0, .slice D1 n1 k1, .slice D2 n2 k2, .slice D3 n3 k3, .slice D4 n4 k4] ∧ wr.ownsRow N 28 1 v i cs ∧ GRows 0 wr v cs ((List.range i).map rf) ∧ Below w.heap.size w wr ∧ N ≤ wr.heap.size) (fun _ y _ => m.length - (intOf y).toNat)
  case atStart => exact ⟨0, _, [], rfl, Nat.zero_le _, rfl, kl, kc, ⟨rfl, .inl ⟨rfl, rfl⟩⟩, grows_nil _ _ _, hb0, hNw⟩
  case round =>
    clear kl kc hb0 hNw
    obtain ⟨i, v, cs, rfl, hi, rfl, kl, kc, hown, hgr, hb0, hNw⟩ := hrel
    by_cases hlt : i < m.length
    · have q1 : (0 : Int) ≤ (i : Int) := by omega
      have q2 : (i : Int) < (m.length : Int) := by omega
      have hir : i < r.length := by have := HLEN.out; omega
      have q3 : (i : Int) < (r.length : Int) := by omega
      obtain ⟨bm, qm, Am, lm, cm, rfl, hbm0, hcm0, hrm0⟩ := rows_get hMd hlt
      have hcm := (hb0.cell (p := ⟨bm, qm + i, none⟩) hbm0).trans hcm0
      have hrm := kept_RWd _ _ _ _ hb0 hrm0
      obtain ⟨br, qr, Ar, lr, cr, rfl, hbr0, hcr0, hrr0⟩ := rows_get hRd hir
      have hcr := (hb0.cell (p := ⟨br, qr + i, none⟩) hbr0).trans hcr0
      have hrr := kept_RWd _ _ _ _ hb0 hrr0
      have x5 : bm < N := by omega
      have x6 : br < N := by omega
      have x7 : bm ≠ N := by omega
      have x8 : br ≠ N := by omega
      have z1 := (lw_at hrm).1
      have z2 := (lw_at hrr).1
      have z3 : lm = L.block := by have := HML.out _ (List.getElem_mem hlt); omega
      have z4 : lr ≤ 2000 := by have := HRL.out _ (List.getElem_mem hir); omega
      have HC := Lib.hid (fun w' (hb : Below wr.heap.size wr w') => HRow.out Am Ar lm cm lr cr m[i] r[i] w' (kept_RWd _ _ _ _ hb hrm) (kept_RWd _ _ _ _ hb hrr) z3 (by omega))
      have HRI := Lib.hid (HRG.out i hlt hir)
      have HFI := Lib.hid (HRF.out i)
      have HTI := Lib.hid (HRT.out m[i] r[i])
      rw [HRI.out] at HC HTI
      clear z1 z2 z3 z4 hrm0 hrr0 hcm0 hcr0 hrm hrr hir HRI
      have cl := kl.cell
      have ll := kl.lt
      have cc := kc.cell
      have lc := kc.lt
      have lbm : bm < wr.heap.size := by omega
      have lbr : br < wr.heap.size := by omega
      obtain ⟨fi, hfi⟩ : ∃ fi, fi = rf i := ⟨_, rfl⟩
      rw [← hfi] at HC HTI HFI
      clear hfi
      go_upto_region 5 with fail
      refine wpO_begin (FromX N N) [11, 12, 13] [0, 1, 2, 3, 4, 5, 6, 7, 8, 9, 10, 11, 12, 13, 14] (by kernel_rfl) (by kernel_rfl) ?_
      refine wpO_startK (fromX_moves N N) ?_
      intro Wc HWc hacc
      have hbW : Below wr.heap.size wr Wc := by rw [HWc.out]; exact (Below.refl _ _).drew
      have hNc : N ≤ Wc.heap.size := by have := hbW.size; omega
      replace kl := kl.below hbW kl.lt
      replace kc := kc.below hbW kc.lt
      replace hown := own_below hown hbW (Nat.le_refl _)
      replace hgr := grows_below hgr hbW
      replace hb0 := below_chain hb0 hbW
      repeat (first | (refine wpO_skip (fromX_moves N N) rfl rfl (fun _ _ _ h => h) ?_ ; simp only [Act.put, List.setIfInBounds_toArray, List.set_cons_zero, List.set_cons_succ]) | (refine wpO_light (v := ?_) (fromX_moves N N) rfl rfl (fun _ _ _ h => h) ?_ ?_ ; rotate_left ; (· (intro w' hR ; (first | have hcells := fromX_cellsD ((fromX_moves N N).trans _ _ _ hacc hR) | skip) ; go_simp ; try with_reducible rfl)) ; simp only [Act.put, List.setIfInBounds_toArray, List.set_cons_zero, List.set_cons_succ]))
      refine wpO_call (fromX_moves N N) rfl rfl rfl (fun _ => by go_simp <;> rfl) ((HC.out _ hbW).mono ?_)
      rintro e w7 ⟨va, rfl, hva, hb7⟩
      refine ⟨_, rfl, fromX_below hb7 hNc, ?_⟩
      replace hacc := (fromX_moves N N).trans _ _ _ hacc (fromX_below hb7 hNc)
      simp only [Act.put, List.setIfInBounds_toArray, List.set_cons_zero, List.set_cons_succ]
      obtain ⟨Av, cv, rfl, -⟩ := own_form hva
      have hlv : ∀ q, v.ownBlock = some q → q < Wc.heap.size := fun q e => (hown.lt q e).2
      have hN7 : N ≤ w7.heap.size := by have := hb7.size; omega
      have hx := rwx_own (N := 0) (gb := v.ownBlock) hva HTI.out (Nat.zero_le _) hlv
      replace kl := kl.below hb7 kl.lt
      replace kc := kc.below hb7 kc.lt
      replace hown := own_below hown hb7 (Nat.le_refl _)
      replace hgr := grows_below hgr hb7
      replace hb0 := below_chain hb0 hb7
      clear hva hlv hb7 hacc HC hbW HWc hNc cl ll cc lc
      repeat (first | (refine wpO_skip (fromX_moves N N) rfl rfl (fun _ _ _ h => h) ?_ ; simp only [Act.put, List.setIfInBounds_toArray, List.set_cons_zero, List.set_cons_succ]) | (refine wpO_light (v := ?_) (fromX_moves N N) rfl rfl (fun _ _ _ h => h) ?_ ?_ ; rotate_left ; (· (intro w' hR ; (first | have hcells := fromX_cellsD ((fromX_moves N N).trans _ _ _ hacc hR) | skip) ; go_simp ; try with_reducible rfl)) ; simp only [Act.put, List.setIfInBounds_toArray, List.set_cons_zero, List.set_cons_succ]))
      refine wpO_heavy (fromX_moves N N) rfl rfl rfl ?_
      go_simp
      have hal := (Below.refl w7.heap.size w7).alloc (Nat.le_refl _) (.cells #[.slice Av fi.length cv] 28)
      have hrd := rd_one w7 (.slice Av fi.length cv) 28
      refine ⟨fromX_below hal hN7, ?_⟩
      replace kl := kl.below hal kl.lt
      replace kc := kc.below hal kc.lt
      replace hown := own_below hown hal (Nat.le_refl _)
      replace hgr := grows_below hgr hal
      replace hb0 := below_chain hb0 hal
      replace hx := rwx_keep hx hal.size (fun b _ h2 _ => hal.block b h2)
      have hN8 := Nat.le_trans hN7 hal.size
      try simp only [Act.put, List.setIfInBounds_toArray, List.set_cons_zero, List.set_cons_succ]
      generalize w7.alloc _ = w8 at kl kc hown hgr hx hb0 hrd hN8 ⊢
      generalize w7.heap.size = g7 at hrd ⊢
      clear hal hN7
      have hacc := (fromX_moves N N).refl w8
      repeat (first | (refine wpO_skip (fromX_moves N N) rfl rfl (fun _ _ _ h => h) ?_ ; simp only [Act.put, List.setIfInBounds_toArray, List.set_cons_zero, List.set_cons_succ]) | (refine wpO_light (v := ?_) (fromX_moves N N) rfl rfl (fun _ _ _ h => h) ?_ ?_ ; rotate_left ; (· (intro w' hR ; (first | have hcells := fromX_cellsD ((fromX_moves N N).trans _ _ _ hacc hR) | skip) ; go_simp ; try with_reducible rfl)) ; simp only [Act.put, List.setIfInBounds_toArray, List.set_cons_zero, List.set_cons_succ]))
      refine wpO_heavy (fromX_moves N N) rfl rfl rfl ?_
      refine wp_append_rd _ _ rfl el_ww rfl hown rfl hrd (by intro u hu; simp at hu; subst hu; rfl) (by omega) hN8 ?_
      intro v' wn hown' hgrow hblk
      have hvb : ∀ q, v.ownBlock = some q → N ≤ q := fun q e => (hown.lt q e).1
      refine ⟨fromX_row hgrow hN8 hvb, ?_⟩
      have hgn := grows_app hgr hx hgrow hblk
      rw [HFI.out] at hgn
      replace kl := kl.grown hgrow (fun e => by first | (have := hvb _ e; omega) | (have := hvb _ e.symm; omega))
      replace kc := kc.grown hgrow (fun e => by first | (have := hvb _ e; omega) | (have := hvb _ e.symm; omega))
      replace hb0 := hb0.trans ((lw_grow hown hgrow hN8).mono (by omega))
      have hNn : N ≤ wn.heap.size := by have := hgrow.size; omega
      clear hown hgr hx hgrow hblk hvb hN8 hrd hacc
      have hacc := (fromX_moves N N).refl wn
      try simp only [Act.put, List.setIfInBounds_toArray, List.set_cons_zero, List.set_cons_succ]
      repeat (first | (refine wpO_skip (fromX_moves N N) rfl rfl (fun _ _ _ h => h) ?_ ; simp only [Act.put, List.setIfInBounds_toArray, List.set_cons_zero, List.set_cons_succ]) | (refine wpO_light (v := ?_) (fromX_moves N N) rfl rfl (fun _ _ _ h => h) ?_ ?_ ; rotate_left ; (· (intro w' hR ; (first | have hcells := fromX_cellsD ((fromX_moves N N).trans _ _ _ hacc hR) | skip) ; go_simp ; try with_reducible rfl)) ; simp only [Act.put, List.setIfInBounds_toArray, List.set_cons_zero, List.set_cons_succ]))
      refine wpO_done ?_
      go_wp2
      go_roundw
      case rel => exact ⟨i + 1, v', _, rfl, by omega, by go_num, kl, kc, hown', hgn, hb0, hNn⟩
      case measure => simp [intOf]; omega
    · obtain rfl : i = m.length := by omega
      have q2 : ¬ ((m.length : Int) < (m.length : Int)) := by omega
      have hend := grows_done hgr hown
      go_wp2
      go_ret
      exact ⟨_, rfl, hend, hb0⟩
set_option maxRecDepth 100000 in
set_option maxHeartbeats 400000 in
theorem rLengths_any (L : LayR) (t1 t2 : Nat) (w : World) (hL : LayOk L) (h1 : t1 = L.k + L.block - 1) (h2 : t2 = 2 * L.k - 1) :
    Calls Tryz.prog 41 #[.agg (layCs L)] w fun e w' => e = .returned (.agg #[.int .i64 (L.k : Int), .int .i64 (t1 : Int), .int .i64 (t2 : Int)]) ∧ Below w.heap.size w w' := by
  have hb1 := hL.b1
  have hb2 := hL.b2
  have hq1 := hL.q1
  have hq2 := hL.q2
  have hk := hL.k
  obtain ⟨t3, ht3⟩ : ∃ t3, t3 = L.k + L.block := ⟨_, rfl⟩
  obtain ⟨t4, ht4⟩ : ∃ t4, t4 = 2 * L.k := ⟨_, rfl⟩
  have e1 : (L.k : Int) + (L.block : Int) = (t3 : Int) := by omega
  have e2 : IntKind.i64.wrap (t3 : Int) = (t3 : Int) := wr_i64 _ (by omega) (by omega)
  have e3 : (t3 : Int) - 1 = (t1 : Int) := by omega
  have e4 : IntKind.i64.wrap (t1 : Int) = (t1 : Int) := wr_i64 _ (by omega) (by omega)
  have e5 : (2 : Int) * (L.k : Int) = (t4 : Int) := by omega
  have e6 : IntKind.i64.wrap (t4 : Int) = (t4 : Int) := wr_i64 _ (by omega) (by omega)
  have e7 : (t4 : Int) - 1 = (t2 : Int) := by omega
  have e8 : IntKind.i64.wrap (t2 : Int) = (t2 : Int) := wr_i64 _ (by omega) (by omega)
  clear hb1 hb2 hq1 hq2 hk ht3 ht4 h1 h2 hL
  unfold layCs
  obtain ⟨kl, ka, hb0, -⟩ := boxes2 w 39 87 #[.int .u64 (L.p : Int), .int .i64 (L.block : Int), .int .i64 (L.queries : Int), .int .i64 (L.k : Int), .int .i64 (L.n : Int), .int .i64 (L.secret : Int), .int .i64 (L.rows : Int), .int .i64 (L.a : Int), .int .i64 (L.b : Int), .int .i64 (L.b : Int), .int .i64 (L.b : Int)] #[.int .i64 0, .int .i64 0, .int .i64 0]
  go_enter Tryz.func41, Tryz.ntmps41
  go_upto_region 1 with fail
  generalize (w.alloc _).alloc _ = w1 at kl ka hb0 ⊢
  have cc1 := kl.cell
  obtain ⟨cc2, f2⟩ := ka.cells'
  have l1 := kl.lt
  have l2 := ka.lt
  go_wp2_with fail
  have k3 := set3_blk ka (.int .i64 (L.k : Int)) (.int .i64 (t1 : Int)) (.int .i64 (t2 : Int))
  have hg := set3_grown (w := w1) (g := w.heap.size + 1) (.int .i64 (L.k : Int)) (.int .i64 (t1 : Int)) (.int .i64 (t2 : Int))
  replace hb0 := hb0.trans (below_of_only hg hb0.size (by omega))
  revert k3 hb0
  generalize ((World.setCell _ _ _).setCell _ _).setCell _ _ = wf
  intro k3 hb0
  have c4 := k3.cell
  exact bodyPost_ret (v := .agg #[.int .i64 (L.k : Int), .int .i64 (t1 : Int), .int .i64 (t2 : Int)]) (by simp [results, Tryz.results41, go_sem, c4]) rfl ⟨rfl, hb0⟩
def addTo (p s : Nat) (F G : Nat → Nat) (t : Nat) : Nat → Nat := upTo (fun k => (F k + s * G k % p) % p) F t
set_option maxRecDepth 100000 in
set_option maxHeartbeats 2000000 in
theorem accumulate_any (p s g base gb na ca nb cb mb t : Nat) (F G : Nat → Nat) (w : World) (hp : okP p = true) (ka : w.ownsRow base 22 1 (.slice (some ⟨g, 0, none⟩) na ca) na (U64 ((List.range na).map F))) (kb : Blk w gb 22 (fillC mb G)) (hg : g ≠ gb) (hb : nb ≤ mb) (ht : t = min na nb) (hm : na ≤ 65536) :
    Calls Tryz.prog 82 #[fv p, .slice (some ⟨g, 0, none⟩) na ca, .slice (some ⟨gb, 0, none⟩) nb cb, .int .u64 (s : Int)] w fun e w' => e = .returned (.tuple #[]) ∧ w'.ownsRow base 22 1 (.slice (some ⟨g, 0, none⟩) na ca) na (U64 ((List.range na).map (addTo p s F G t))) ∧ w.grownBy w' (some g) := by
  have HA := Lib.hid (fun a b w => fAdd_any p a b w hp)
  have HM := Lib.hid (fun a b w => fMul_any p a b w hp)
  have hmin : min (na : Int) (nb : Int) = (t : Int) := by omega
  have gl : (na : Int) ≤ 65536 := by omega
  have lg : g < w.heap.size := (ka.lt g rfl).2
  have lgb := kb.lt
  have ht1 : t ≤ na := by omega
  have ht2 : t ≤ nb := by omega
  have gt : (t : Int) ≤ 65536 := by omega
  clear ht hp
  unfold fv addTo at *
  have hb0 : Below w.heap.size w (w.alloc (.cells #[.int .u64 (p : Int)] 96)) := (Below.refl _ _).alloc (Nat.le_refl _) _
  have kf := Blk.new w 96 #[.int .u64 (p : Int)]
  have g1 : w.heap.size ≠ g := by omega
  replace ka := own_below ka hb0 (Nat.le_refl _)
  replace kb := kb.below hb0 kb.lt
  have hgr := grown_below (grown_refl' w (some g)) hb0 (Nat.le_refl _)
  clear hb0
  obtain ⟨S, hS⟩ : ∃ S : Nat → Nat, S = fun k => (F k + s * G k % p) % p := ⟨_, rfl⟩
  have HSE := Lib.hid (show ∀ k, (F k + s * G k % p) % p = S k from fun k => by rw [hS])
  rw [← hS]
  clear hS
  have HZ := Lib.hid (upTo_row0 na S F)
  go_enter Tryz.func82, Tryz.ntmps82
  go_upto_region 1 with fail
  generalize w.alloc _ = w0 at kf ka kb hgr ⊢
  go_wp2_with fail
  go_loopw [14] (fun y wr => ∃ i : Nat, i ≤ t ∧ y = .int .i64 (i : Int) ∧ Blk wr w.heap.size 96 #[.int .u64 (p : Int)] ∧ wr.ownsRow base 22 1 (.slice (some ⟨g, 0, none⟩) na ca) na (U64 ((List.range na).map (upTo S F i))) ∧ Blk wr gb 22 (fillC mb G) ∧ w.grownBy wr (some g)) (fun y _ => t - (intOf y).toNat)
  case atStart => exact ⟨0, Nat.zero_le _, rfl, kf, by rw [HZ.out]; exact ka, kb, hgr⟩
  case round =>
    clear kf ka kb hgr
    obtain ⟨i, hi, rfl, kf, ka, kb, hgr⟩ := hrel
    by_cases hlt : i < t
    · have q1 : (0 : Int) ≤ (i : Int) := by omega
      have q2 : (i : Int) < (t : Int) := by omega
      have q3 : (i : Int) < (na : Int) := by omega
      have q4 : (i : Int) < (nb : Int) := by omega
      have him : i < na := by omega
      have himb : i < mb := by omega
      have HSi := Lib.hid (HSE.out i)
      obtain ⟨x, hx⟩ : ∃ x, x = F i := ⟨_, rfl⟩
      obtain ⟨y, hy⟩ : ∃ y, y = G i := ⟨_, rfl⟩
      obtain ⟨u, hu⟩ : ∃ u, u = s * y % p := ⟨_, rfl⟩
      obtain ⟨z, hz⟩ : ∃ z, z = S i := ⟨_, rfl⟩
      have HST := Lib.hid (upTo_row (n := na) (G := F) hz)
      rw [← hx, ← hy, ← hu, ← hz] at HSi
      have HX := Lib.hid (show (U64 ((List.range na).map (upTo S F i)))[i]? = some (.int .u64 (x : Int)) by rw [upTo_at _ _ him, hx])
      have HM1 : Hid (∀ w : World, Calls Tryz.prog 56 #[.agg #[.int .u64 (p : Int)], .int .u64 (s : Int), .int .u64 (y : Int)] w fun e w' => e = .returned (.int .u64 (u : Int)) ∧ Below w.heap.size w w') := Lib.hid (fun w => by rw [hu]; exact HM.out s y w)
      have HC : Hid (∀ w : World, Calls Tryz.prog 111 #[.agg #[.int .u64 (p : Int)], .int .u64 (x : Int), .int .u64 (u : Int)] w fun e w' => e = .returned (.int .u64 (z : Int)) ∧ Below w.heap.size w w') := Lib.hid (fun w => by rw [← HSi.out]; exact HA.out x u w)
      have ca1 := ka.cellAt i (by omega)
      rw [HX.out] at ca1
      have cb1 := kb.cell i
      rw [fill_get _ himb, ← hy] at cb1
      clear hx hy hz hu
      have cf := kf.cell
      have lf := kf.lt
      have la : g < wr.heap.size := (ka.lt g rfl).2
      have lb := kb.lt
      go_upto_region 4 with fail
      refine wpGO_begin (Later) (later_moves) [16] [16] [0, 1, 2, 3, 4, 5, 6, 7, 8, 9, 10, 11, 12, 13, 14, 15, 16] (by kernel_rfl) (by kernel_rfl) ?_
      refine wpGO_start (later_moves) ?_
      intro Wc hacc
      repeat (first | (refine wpGO_skip (later_moves) rfl rfl rfl rfl (fun _ _ _ h => h) ?_ ; simp only [Act.put, List.setIfInBounds_toArray, List.set_cons_zero, List.set_cons_succ]) | (refine wpGO_light (v := ?_) (later_moves) rfl rfl rfl rfl (fun _ _ _ h => h) ?_ ?_ ; rotate_left ; (· (intro w' hR ; (first | have hcells := later_cellsD ((later_moves).trans _ _ _ hacc hR) | skip) ; go_simp ; try with_reducible rfl)) ; simp only [Act.put, List.setIfInBounds_toArray, List.set_cons_zero, List.set_cons_succ]) | (refine wpGO_free (v := ?_) rfl rfl rfl rfl (fun _ _ _ h => h) ?_ ?_ ; rotate_left ; (· (intro w' ; go_simp ; try with_reducible rfl)) ; simp only [Act.put, List.setIfInBounds_toArray, List.set_cons_zero, List.set_cons_succ]))
      refine wpGO_call (later_moves) rfl rfl rfl rfl (fun _ _ _ h => h) (fun _ => by go_simp <;> rfl) (fun w' hR => HM1.out _) ?_
      simp only [Act.put, List.setIfInBounds_toArray, List.set_cons_zero, List.set_cons_succ]
      repeat (first | (refine wpGO_skip (later_moves) rfl rfl rfl rfl (fun _ _ _ h => h) ?_ ; simp only [Act.put, List.setIfInBounds_toArray, List.set_cons_zero, List.set_cons_succ]) | (refine wpGO_light (v := ?_) (later_moves) rfl rfl rfl rfl (fun _ _ _ h => h) ?_ ?_ ; rotate_left ; (· (intro w' hR ; (first | have hcells := later_cellsD ((later_moves).trans _ _ _ hacc hR) | skip) ; go_simp ; try with_reducible rfl)) ; simp only [Act.put, List.setIfInBounds_toArray, List.set_cons_zero, List.set_cons_succ]) | (refine wpGO_free (v := ?_) rfl rfl rfl rfl (fun _ _ _ h => h) ?_ ?_ ; rotate_left ; (· (intro w' ; go_simp ; try with_reducible rfl)) ; simp only [Act.put, List.setIfInBounds_toArray, List.set_cons_zero, List.set_cons_succ]))
      refine wpGO_call (later_moves) rfl rfl rfl rfl (fun _ _ _ h => h) (fun _ => by go_simp <;> rfl) (fun w' hR => HC.out _) ?_
      simp only [Act.put, List.setIfInBounds_toArray, List.set_cons_zero, List.set_cons_succ]
      repeat (first | (refine wpGO_skip (later_moves) rfl rfl rfl rfl (fun _ _ _ h => h) ?_ ; simp only [Act.put, List.setIfInBounds_toArray, List.set_cons_zero, List.set_cons_succ]) | (refine wpGO_light (v := ?_) (later_moves) rfl rfl rfl rfl (fun _ _ _ h => h) ?_ ?_ ; rotate_left ; (· (intro w' hR ; (first | have hcells := later_cellsD ((later_moves).trans _ _ _ hacc hR) | skip) ; go_simp ; try with_reducible rfl)) ; simp only [Act.put, List.setIfInBounds_toArray, List.set_cons_zero, List.set_cons_succ]) | (refine wpGO_free (v := ?_) rfl rfl rfl rfl (fun _ _ _ h => h) ?_ ?_ ; rotate_left ; (· (intro w' ; go_simp ; try with_reducible rfl)) ; simp only [Act.put, List.setIfInBounds_toArray, List.set_cons_zero, List.set_cons_succ]))
      refine wpGO_heavy rfl rfl rfl rfl ?_
      intro wh hRh
      replace hacc := (later_moves).trans _ _ _ hacc hRh
      have hxd := below_chain (Below.refl wr.heap.size wr).drew hacc
      have hgr2 := grown_below hgr hxd hgr.size
      replace kf := kf.below hxd kf.lt
      replace ka := own_below ka hxd (Nat.le_refl _)
      replace kb := kb.below hxd kb.lt
      clear hxd hacc hRh cf lf la lb ca1 cb1 hgr
      have c2 := ka.cellAt i (by omega)
      rw [HX.out] at c2
      have f2 := ka.frozenAt i
      go_simp
      refine ⟨fun h => Bool.noConfusion h, ?_⟩
      obtain ⟨ka, hg3⟩ := ka.stored i (.int .u64 (z : Int))
      replace kf := kf.grown hg3 (fun e => g1 (Option.some.inj e))
      replace kb := kb.grown hg3 (fun e => hg (Option.some.inj e).symm)
      rw [HST.out] at ka
      have hgr := grown_step hgr2 hg3 (fun _ e => .inl e)
      clear hg3 f2 c2 hgr2
      generalize wh.setCell _ _ = we at kf ka kb hgr ⊢
      refine wpGO_doneP rfl ?_
      go_wp2_with fail
      go_roundw
      case rel => exact ⟨i + 1, by omega, by go_num, kf, ka, kb, hgr⟩
      case measure => simp [intOf]; omega
    · obtain rfl : i = t := by omega
      have q2 : ¬ ((i : Int) < (i : Int)) := by omega
      go_wp2
      exact bodyPost_end (v := .tuple #[]) (by simp [results, Tryz.results82, go_sem]) rfl ⟨rfl, ka, hgr⟩
def mulF (p N J : Nat) (a b : List Nat) : Nat → Nat := invP p N J ((List.range N).map fun i => evaP p N J a 1 i * evaP p N J b 1 i % p)
set_option maxRecDepth 100000 in
set_option maxHeartbeats 4000000 in
theorem tMultiply_any (p : Nat) (A B : Option Addr) (n c m d J N len : Nat) (a b : List Nat) (w : World) (hp : okP p = true) (ha : RWd w [.slice A n c] a) (hb : RWd w [.slice B m d] b) (hn1 : 1 ≤ n) (hm1 : 1 ≤ m) (hn8 : n ≤ 4096) (hm8 : m ≤ 4096) (hN : LenOk p N) (hJ : N = 2 ^ J) (hlen : n + m = len + 1) (h1 : len ≤ N) (h2 : ∀ j, j < J → 2 ^ j < len) :
    Calls Tryz.prog 83 #[fv p, .slice A n c, .slice B m d] w fun e w' => ∃ g, e = .returned (.tuple #[.slice (some ⟨g, 0, none⟩) len N, .int .i64 0]) ∧ w.heap.size ≤ g ∧ Blk w' g 22 (fillC N (mulF p N J a b)) ∧ Below w.heap.size w w' := by
  obtain ⟨hp1, hp2⟩ := okP_lt hp
  have hN4 := hN.le
  have hN1 := hN.pos
  have HV := Lib.hid (fun w => fValid_any p w hp)
  have HR := Lib.hid (fun w => tRoot_any p N w hp hN)
  have HEa := Lib.hid (fun w' (hb' : Below w.heap.size w w') => tEvaluate_any p A n c N J 1 a w' hp (kept_RWd _ _ _ _ hb' ha) hN hJ (by rw [Nat.mod_eq_of_lt (by omega)]; decide) (by omega))
  have HEb := Lib.hid (fun w' (hb' : Below w.heap.size w w') => tEvaluate_any p B m d N J 1 b w' hp (kept_RWd _ _ _ _ hb' hb) hN hJ (by rw [Nat.mod_eq_of_lt (by omega)]; decide) (by omega))
  have HM := Lib.hid (fun x y w => fMul_any p x y w hp)
  have HI := Lib.hid (fun g l w hl => tInverse_any p (some ⟨g, 0, none⟩) N N J l w hp hl hN hJ)
  have HJ := Lib.hid hJ
  have H2 := Lib.hid h2
  have HQ := Lib.hid (show ∀ j, j ≤ J → 2 ^ j ≤ N from fun j hj => by rw [hJ]; exact Nat.pow_le_pow_right (by decide) hj)
  obtain ⟨Ea, hEa⟩ : ∃ Ea, Ea = evaP p N J a 1 := ⟨_, rfl⟩
  obtain ⟨Eb, hEb⟩ : ∃ Eb, Eb = evaP p N J b 1 := ⟨_, rfl⟩
  obtain ⟨Pr, hPr⟩ : ∃ Pr : Nat → Nat, Pr = fun i => Ea i * Eb i % p := ⟨_, rfl⟩
  have HPS := Lib.hid (show ∀ i, Ea i * Eb i % p = Pr i from fun i => by rw [hPr])
  have HPX := Lib.hid (show ∀ i, Pr i < 18446744073709551616 from fun i => by rw [hPr]; exact Nat.lt_trans (Nat.mod_lt _ (by omega)) hp2)
  rw [show mulF p N J a b = invP p N J ((List.range N).map Pr) by rw [hPr, hEa, hEb]; rfl]
  rw [← hEa] at HEa
  rw [← hEb] at HEb
  have e1 : (n : Int) + (m : Int) = ((len + 1 : Nat) : Int) := by omega
  obtain ⟨s, hs⟩ : ∃ s, s = len + 1 := ⟨_, rfl⟩
  rw [← hs] at e1
  have e2 : IntKind.i64.wrap (s : Int) = (s : Int) := wr_i64 _ (by omega) (by omega)
  have e3 : (s : Int) - 1 = (len : Int) := by omega
  have e4 : IntKind.i64.wrap (len : Int) = (len : Int) := wr_i64 _ (by omega) (by omega)
  have d1 : ((n : Int) == 0) = false := by rw [beq_eq_false_iff_ne]; omega
  have d2 : ((m : Int) == 0) = false := by rw [beq_eq_false_iff_ne]; omega
  have z1 : ¬ ((n : Int) = 0) := by omega
  have z2 : ¬ ((m : Int) = 0) := by omega
  have z3 : ¬ (n = 0) := by omega
  have z4 : ¬ (m = 0) := by omega
  have gN : (N : Int) ≤ 4096 := by omega
  have gl : (len : Int) ≤ (N : Int) := by omega
  have gl2 : len ≤ N := h1
  have gl0 : (0 : Int) ≤ (len : Int) := by omega
  unfold fv at *
  have kf := Blk.new w 96 #[.int .u64 (p : Int)]
  have hb0 : Below w.heap.size w (w.alloc (.cells #[.int .u64 (p : Int)] 96)) := (Below.refl _ _).alloc (Nat.le_refl _) _
  clear hEa hEb hPr hJ h2 ha hb hp hN hs hlen h1
  go_enter Tryz.func83, Tryz.ntmps83
  go_wp2_with fail
  generalize w.alloc _ = w1 at kf hb0 ⊢
  refine (HV.out _).mono ?_
  rintro e w2 ⟨rfl, hbx⟩
  replace kf := kf.below hbx kf.lt
  replace hb0 := below_chain hb0 hbx
  clear hbx
  go_wp2_with fail
  go_loopw [9] (fun v wr => ∃ j q : Nat, j ≤ J ∧ Hid (q = 2 ^ j) ∧ v = .int .i64 (q : Int) ∧ Blk wr w.heap.size 96 #[.int .u64 (p : Int)] ∧ Below w.heap.size w wr) (fun v _ => 8194 - (intOf v).toNat)
  case atStart => exact ⟨0, 1, Nat.zero_le _, Lib.hid rfl, rfl, kf, hb0⟩
  case round =>
    clear kf hb0
    obtain ⟨j, q, hj, HQj, rfl, kf, hb0⟩ := hrel
    by_cases hlt : j < J
    · have hq1 : q < len := by have := H2.out j hlt; rw [HQj.out]; exact this
      have hq2 : q ≤ N := by have := HQ.out j hj; rw [HQj.out]; exact this
      have hq3 : 1 ≤ q := by rw [HQj.out]; exact Nat.one_le_two_pow
      have q1 : (q : Int) < (len : Int) := by omega
      have q2 : (q : Int) ≤ 4096 := by omega
      have q1d : decide ((q : Int) < (len : Int)) = true := decide_eq_true q1
      have q2d : decide ((q : Int) ≤ 4096) = true := decide_eq_true q2
      obtain ⟨r, hr⟩ : ∃ r, r = q * 2 := ⟨_, rfl⟩
      have x1 : (q : Int) * 2 = (r : Int) := by omega
      have x2 : IntKind.i64.wrap (r : Int) = (r : Int) := wr_i64 _ (by omega) (by omega)
      have HQn : Hid (r = 2 ^ (j + 1)) := Lib.hid (by rw [hr, HQj.out, Nat.pow_succ])
      have hrq : q < r := by omega
      have hr2 : r ≤ 8192 := by omega
      clear hr
      go_wp2
      go_roundw
      case rel => exact ⟨j + 1, r, by omega, HQn, rfl, kf, hb0⟩
      case measure => simp [intOf]; omega
    · obtain rfl : j = J := by omega
      have hqN : q = N := by rw [HQj.out, HJ.out]
      subst hqN
      have q1 : ¬ ((q : Int) < (len : Int)) := by omega
      have q1d : decide ((q : Int) < (len : Int)) = false := decide_eq_false q1
      clear H2 HQ HQj HJ
      have cf := kf.cell
      go_wp2_with fail
      refine (HR.out _).mono ?_
      rintro e w3 ⟨rfl, hbx⟩
      replace kf := kf.below hbx kf.lt
      replace hb0 := below_chain hb0 hbx
      clear hbx cf HR
      have cf := kf.cell
      go_wp2_with fail
      refine (HEa.out _ hb0).mono ?_
      rintro e w4 ⟨g1, rfl, hg1, k1, hbx⟩
      have hf1 := kf.lt
      replace kf := kf.below hbx kf.lt
      replace hb0 := below_chain hb0 hbx
      clear hbx cf HEa
      have cf := kf.cell
      go_wp2_with fail
      refine (HEb.out _ hb0).mono ?_
      rintro e w5 ⟨g2, rfl, hg2, k2, hbx⟩
      have hf2 := k1.lt
      replace kf := kf.below hbx kf.lt
      replace k1 := k1.below hbx k1.lt
      replace hb0 := below_chain hb0 hbx
      clear hbx cf HEb HV
      have hgf : w.heap.size < g1 := by omega
      have hg12 : g1 < g2 := by omega
      have HZ := Lib.hid (upTo_zero q Pr Ea)
      clear hg1 hg2 hf1 hf2 q1d
      go_wp2_with fail
      go_loopw [73] (fun y wr => ∃ i : Nat, i ≤ q ∧ y = .int .i64 (i : Int) ∧ Blk wr w.heap.size 96 #[.int .u64 (p : Int)] ∧ Blk wr g1 22 (fillC q (upTo Pr Ea i)) ∧ Blk wr g2 22 (fillC q Eb) ∧ Below w.heap.size w wr) (fun y _ => q - (intOf y).toNat)
      case atStart => exact ⟨0, Nat.zero_le _, rfl, kf, by rw [HZ.out]; exact k1, k2, hb0⟩
      case round =>
        clear kf k1 k2 hb0
        obtain ⟨i, hi, rfl, kf, k1, k2, hb0⟩ := hrel
        by_cases hlt : i < q
        · have q3 : (i : Int) < (q : Int) := by omega
          have q4 : (0 : Int) ≤ (i : Int) := by omega
          have c1 := k1.cell i
          rw [upTo_get _ _ hlt] at c1
          have c2 := k2.cell i
          rw [fill_get _ hlt] at c2
          have HPi := Lib.hid (HPS.out i)
          obtain ⟨x, hx⟩ : ∃ x, x = Ea i := ⟨_, rfl⟩
          obtain ⟨y, hy⟩ : ∃ y, y = Eb i := ⟨_, rfl⟩
          obtain ⟨z, hz⟩ : ∃ z, z = Pr i := ⟨_, rfl⟩
          have HST := Lib.hid (upTo_set (n := q) (G := Ea) hz)
          have HX := Lib.hid hx
          rw [← hx] at c1 HPi
          rw [← hy] at c2 HPi
          rw [← hz] at HPi
          have HM1 := Lib.hid (fun w => by have := HM.out x y w; rw [HPi.out] at this; exact this)
          clear hx hy hz HPi
          have cf := kf.cell
          have lf := kf.lt
          have l1 := k1.lt
          have l2 := k2.lt
          go_upto_region 20 with fail
          refine wpGO_begin (Later) (later_moves) [13] [13] [0, 1, 2, 3, 4, 5, 6, 7, 8, 9, 10, 11, 12, 13] (by kernel_rfl) (by kernel_rfl) ?_
          refine wpGO_start (later_moves) ?_
          intro Wc hacc
          repeat (first | (refine wpGO_skip (later_moves) rfl rfl rfl rfl (fun _ _ _ h => h) ?_ ; simp only [Act.put, List.setIfInBounds_toArray, List.set_cons_zero, List.set_cons_succ]) | (refine wpGO_light (v := ?_) (later_moves) rfl rfl rfl rfl (fun _ _ _ h => h) ?_ ?_ ; rotate_left ; (· (intro w' hR ; (first | have hcells := later_cellsD ((later_moves).trans _ _ _ hacc hR) | skip) ; go_simp ; try with_reducible rfl)) ; simp only [Act.put, List.setIfInBounds_toArray, List.set_cons_zero, List.set_cons_succ]) | (refine wpGO_free (v := ?_) rfl rfl rfl rfl (fun _ _ _ h => h) ?_ ?_ ; rotate_left ; (· (intro w' ; go_simp ; try with_reducible rfl)) ; simp only [Act.put, List.setIfInBounds_toArray, List.set_cons_zero, List.set_cons_succ]))
          refine wpGO_call (later_moves) rfl rfl rfl rfl (fun _ _ _ h => h) (fun _ => by go_simp <;> rfl) (fun w' hR => HM1.out _) ?_
          simp only [Act.put, List.setIfInBounds_toArray, List.set_cons_zero, List.set_cons_succ]
          repeat (first | (refine wpGO_skip (later_moves) rfl rfl rfl rfl (fun _ _ _ h => h) ?_ ; simp only [Act.put, List.setIfInBounds_toArray, List.set_cons_zero, List.set_cons_succ]) | (refine wpGO_light (v := ?_) (later_moves) rfl rfl rfl rfl (fun _ _ _ h => h) ?_ ?_ ; rotate_left ; (· (intro w' hR ; (first | have hcells := later_cellsD ((later_moves).trans _ _ _ hacc hR) | skip) ; go_simp ; try with_reducible rfl)) ; simp only [Act.put, List.setIfInBounds_toArray, List.set_cons_zero, List.set_cons_succ]) | (refine wpGO_free (v := ?_) rfl rfl rfl rfl (fun _ _ _ h => h) ?_ ?_ ; rotate_left ; (· (intro w' ; go_simp ; try with_reducible rfl)) ; simp only [Act.put, List.setIfInBounds_toArray, List.set_cons_zero, List.set_cons_succ]))
          refine wpGO_heavy rfl rfl rfl rfl ?_
          intro wh hRh
          replace hacc := (later_moves).trans _ _ _ hacc hRh
          have hxd := below_chain (Below.refl wr.heap.size wr).drew hacc
          replace kf := kf.below hxd kf.lt
          replace k1 := k1.below hxd k1.lt
          replace k2 := k2.below hxd k2.lt
          replace hb0 := below_chain hb0 hxd
          clear hxd hacc hRh cf lf l1 l2 c1 c2
          have c3 := k1.cell i
          rw [upTo_get _ _ hlt, ← HX.out] at c3
          have f3 := k1.frozen
          go_simp
          refine ⟨fun h => Bool.noConfusion h, ?_⟩
          have hg := set_only (w := wh) g1 i (.int .u64 (z : Int))
          replace k1 := k1.set_ i (.int .u64 (z : Int))
          rw [HST.out] at k1
          replace kf := kf.grown hg (fun e => by have := Option.some.inj e; omega)
          replace k2 := k2.grown hg (fun e => by have := Option.some.inj e; omega)
          replace hb0 := hb0.trans (below_of_only hg hb0.size (by omega))
          clear hg f3 c3
          generalize wh.setCell _ _ = we at kf k1 k2 hb0 ⊢
          refine wpGO_doneP rfl ?_
          go_wp2_with fail
          go_roundw
          case rel => exact ⟨i + 1, by omega, by go_num, kf, k1, k2, hb0⟩
          case measure => simp [intOf]; omega
        · obtain rfl : i = q := by omega
          have q3 : ¬ ((i : Int) < (i : Int)) := by omega
          rw [upTo_all] at k1
          have hl := fill_rwd k1 (fun k _ => HPX.out k) (by simp [maxLen]; omega)
          have cf := kf.cell
          clear k2 k1
          go_wp2_with fail
          refine (HI.out _ _ _ hl).mono ?_
          rintro e w7 ⟨g3, rfl, hg3, k3, hbx⟩
          have hs := hb0.size
          go_wp2
          go_ret2
          exact ⟨g3, rfl, by omega, k3, below_chain hb0 hbx⟩
end Go.Proofs.YtakjnmojigechaaGreat
namespace Go.Proofs.YtakjnmojigechaaGreat
def facs (p : Nat) : List Nat :=
  if p = 97 then [2, 3] else if p = 193 then [2, 3] else if p = 12289 then [2, 3] else if p = 18446744069414584321 then [2, 3, 5, 17, 257, 65537] else [2]
theorem gen_order {p : Nat} (h : okP p = true) : ∀ q ∈ facs p, (p - 1) % q = 0 ∧ sqm p 64 (rowOf p).1 ((p - 1) / q) ≠ 1 ∧ sqm p 64 (rowOf p).1 ((p - 1) / q) < p ∧ (p - 1) / q < 2 ^ 64 := by
  rcases okP_cases h with rfl | rfl | rfl | rfl | rfl | rfl | rfl <;> decide +kernel
def prodL : List (Nat × Nat) → Nat
  | [] => 1
  | (q, e) :: l => q ^ e * prodL l
def facE (p : Nat) : List (Nat × Nat) :=
  if p = 97 then [(2, 5), (3, 1)] else if p = 193 then [(2, 6), (3, 1)] else if p = 12289 then [(2, 12), (3, 1)] else if p = 18446744069414584321 then [(2, 32), (3, 1), (5, 1), (17, 1), (257, 1), (65537, 1)] else [(2, (rowOf p).2.1)]
theorem facE_ok {p : Nat} (h : okP p = true) : prodL (facE p) = p - 1 ∧ ((facE p).map (·.1)) = facs p := by
  rcases okP_cases h with rfl | rfl | rfl | rfl | rfl | rfl | rfl <;> decide +kernel
theorem facs_prime {p q : Nat} (h : okP p = true) (hq : q ∈ facs p) : 2 ≤ q ∧ q ≤ 65537 := by
  have : ∀ q ∈ facs p, 2 ≤ q ∧ q ≤ 65537 := by
    rcases okP_cases h with rfl | rfl | rfl | rfl | rfl | rfl | rfl <;> decide +kernel
  exact this q hq
theorem pow_gcd {p : Nat} {g : Int} (hg : ∃ v, Cg p (g * v) 1) : ∀ (n a b : Nat), a + b ≤ n → Cg p (g ^ a) 1 → Cg p (g ^ b) 1 → Cg p (g ^ Nat.gcd a b) 1
  | 0, a, b, h, ha, hb => by
    have h1 : a = 0 := by omega
    have h2 : b = 0 := by omega
    subst h1 h2
    exact ha
  | n + 1, a, b, h, ha, hb => by
    obtain ⟨v, hv⟩ := hg
    rcases Nat.eq_zero_or_pos a with h0 | h0
    · subst h0; rw [Nat.gcd_zero_left]; exact hb
    rcases Nat.eq_zero_or_pos b with h1 | h1
    · subst h1; rw [Nat.gcd_zero_right]; exact ha
    have cancel : ∀ s t : Nat, Cg p (g ^ (s + t)) 1 → Cg p (g ^ s) 1 → Cg p (g ^ t) 1 := fun s t h1 h2 => by
      rw [Int.pow_add] at h1
      exact ((Cg.of_eq (Int.one_mul _).symm).trans (h2.symm.mul Cg.rfl')).trans h1
    rcases Nat.le_total a b with hab | hab
    · obtain ⟨d, rfl⟩ : ∃ d, b = a + d := ⟨b - a, by omega⟩
      have := pow_gcd ⟨v, hv⟩ n a d (by omega) ha (cancel _ _ hb ha)
      rwa [Nat.gcd_self_add_right]
    · obtain ⟨d, rfl⟩ : ∃ d, a = b + d := ⟨a - b, by omega⟩
      have := pow_gcd ⟨v, hv⟩ n d b (by omega) (cancel _ _ ha hb) hb
      rwa [Nat.gcd_self_add_left]
theorem proper_div : ∀ (l : List (Nat × Nat)) (d : Nat), (∀ x ∈ l, ∀ k, k ∣ x.1 → k = 1 ∨ k = x.1) → d ∣ prodL l → d ≠ prodL l → ∃ x ∈ l, d ∣ prodL l / x.1
  | l, d, hp, hd, hne => by
    obtain ⟨m, hm⟩ := hd
    have hm1 : m ≠ 1 := fun e => by rw [e, Nat.mul_one] at hm; exact hne hm.symm
    -- some factor divides m
    have key : ∀ (l' : List (Nat × Nat)), (∀ x ∈ l', ∀ k, k ∣ x.1 → k = 1 ∨ k = x.1) → (∀ x ∈ l', ¬ x.1 ∣ m) → Nat.Coprime m (prodL l') := by
      intro l'
      induction l' with
      | nil => intro _ _; exact Nat.coprime_one_right m
      | cons x l' ih =>
        intro h1 h2
        have hc : Nat.Coprime m x.1 := by
          rcases h1 x (.head _) (Nat.gcd m x.1) (Nat.gcd_dvd_right _ _) with e | e
          · exact e
          · exact absurd (e ▸ Nat.gcd_dvd_left m x.1) (h2 x (.head _))
        exact Nat.Coprime.mul_right (Nat.Coprime.pow_right _ hc) (ih (fun y hy => h1 y (.tail _ hy)) fun y hy => h2 y (.tail _ hy))
    by_cases hx : ∃ x ∈ l, x.1 ∣ m
    · obtain ⟨x, hxl, c, hc⟩ := hx
      refine ⟨x, hxl, ?_⟩
      rcases Nat.eq_zero_or_pos x.1 with h0 | h0
      · rw [h0, Nat.div_zero]
        exact Nat.dvd_zero _
      · rw [hm, hc, ← Nat.mul_assoc, Nat.mul_comm d x.1, Nat.mul_assoc, Nat.mul_div_cancel_left _ h0]
        exact Nat.dvd_mul_right _ _
    · have hco := key l hp fun x hx' hd' => hx ⟨x, hx', hd'⟩
      have hmd : m ∣ prodL l := by rw [hm]; exact Nat.dvd_mul_left _ _
      exact absurd (hco.eq_one_of_dvd hmd) hm1
end Go.Proofs.YtakjnmojigechaaGreat
namespace Go.Proofs.YtakjnmojigechaaGreat
theorem smallDiv : ∀ q ∈ [2, 3, 5, 17, 257, 65537], ∀ k ∈ List.range 257, q % k = 0 → k = 1 ∨ k = q := by decide +kernel
theorem facs_div {p q : Nat} (h : okP p = true) (hq : q ∈ facs p) : ∀ k, k ∣ q → k = 1 ∨ k = q := by
  have hin : q ∈ [2, 3, 5, 17, 257, 65537] := by
    have : ∀ q ∈ facs p, q ∈ [2, 3, 5, 17, 257, 65537] := by
      rcases okP_cases h with rfl | rfl | rfl | rfl | rfl | rfl | rfl <;> decide +kernel
    exact this q hq
  obtain ⟨h2, hle⟩ := facs_prime h hq
  intro k ⟨c, hc⟩
  rcases Nat.lt_or_ge k 257 with hk | hk
  · exact smallDiv q hin k (List.mem_range.2 hk) (by rw [hc]; exact Nat.mul_mod_right _ _)
  · have hcl : c < 257 := by
      rcases Nat.lt_or_ge c 257 with h' | h'
      · exact h'
      · have := Nat.mul_le_mul hk h'
        omega
    rcases smallDiv q hin c (List.mem_range.2 hcl) (by rw [hc]; exact Nat.mul_mod_left _ _) with h' | h'
    · right; rw [hc, h', Nat.mul_one]
    · left
      rw [h'] at hc
      have : q * 1 = q * k := by rw [Nat.mul_one, Nat.mul_comm]; exact hc
      exact (Nat.eq_of_mul_eq_mul_left (by omega) this).symm
theorem gen_full {p k : Nat} (h : okP p = true) (h0 : 0 < k) (hk : k < p - 1) : ¬ Cg p (((rowOf p).1 : Int) ^ k) 1 := by
  intro hc
  have hp := okP_lt h
  have hinv : ∃ v, Cg p (((rowOf p).1 : Int) * v) 1 := ⟨((rowOf p).1 : Int) ^ (p - 2), by
    rw [Int.mul_comm, ← Int.pow_succ, show (p - 2).succ = p - 1 by omega]
    exact gen_one h⟩
  have hd := pow_gcd hinv _ k (p - 1) (Nat.le_refl _) hc (gen_one h)
  have hdd : Nat.gcd k (p - 1) ∣ p - 1 := Nat.gcd_dvd_right _ _
  have hdk : Nat.gcd k (p - 1) ≤ k := Nat.le_of_dvd h0 (Nat.gcd_dvd_left _ _)
  obtain ⟨e1, e2⟩ := facE_ok h
  have hmem : ∀ x ∈ facE p, x.1 ∈ facs p := fun x hx => by rw [← e2]; exact List.mem_map.2 ⟨x, hx, rfl⟩
  obtain ⟨x, hx, hdx⟩ := proper_div (facE p) (Nat.gcd k (p - 1)) (fun x hx => facs_div h (hmem x hx)) (by rw [e1]; exact hdd) (by rw [e1]; omega)
  rw [e1] at hdx
  obtain ⟨-, g1, g2, g3⟩ := gen_order h x.1 (hmem x hx)
  have hs := sqm_cg p 64 (rowOf p).1 ((p - 1) / x.1) g3
  obtain ⟨c, hc'⟩ := hdx
  have h1 : Cg p (((rowOf p).1 : Int) ^ ((p - 1) / x.1)) 1 := by
    rw [hc', Int.pow_mul]
    exact (hd.pow c).trans (Cg.of_eq Int.one_pow)
  exact g1 (Cg.eq (p := p) (hs.trans h1) g2 (by omega))
theorem pigeon : ∀ (n : Nat) (f : Nat → Nat), (∀ i, i < n + 1 → f i < n) → (∀ i j, i < n + 1 → j < n + 1 → f i = f j → i = j) → False
  | 0, f, h, _ => absurd (h 0 (by omega)) (Nat.not_lt_zero _)
  | n + 1, f, h, hi => by
    have hne : ∀ i, i < n + 1 → f i ≠ f (n + 1) := fun i h1 e => by
      have := hi i (n + 1) (by omega) (by omega) e
      omega
    refine pigeon n (fun i => if f i = n then f (n + 1) else f i) (fun i h1 => ?_) fun i j h1 h2 e => ?_
    · split
      · rename_i e
        have h3 := hne i h1
        have h4 := h (n + 1) (by omega)
        omega
      · have := h i (by omega)
        omega
    · change (if f i = n then f (n + 1) else f i) = (if f j = n then f (n + 1) else f j) at e
      by_cases e1 : f i = n <;> by_cases e2 : f j = n
      · exact hi i j (by omega) (by omega) (by omega)
      · rw [if_pos e1, if_neg e2] at e
        exact absurd e.symm (hne j h2)
      · rw [if_neg e1, if_pos e2] at e
        exact absurd e (hne i h1)
      · rw [if_neg e1, if_neg e2] at e
        exact hi i j (by omega) (by omega) e
theorem onto {n : Nat} {f : Nat → Nat} (h : ∀ i, i < n → f i < n) (hi : ∀ i j, i < n → j < n → f i = f j → i = j) {y : Nat} (hy : y < n) : ∃ i, i < n ∧ f i = y := by
  refine Classical.byContradiction fun hno => ?_
  have hne : ∀ i, i < n → f i ≠ y := fun i h1 e => hno ⟨i, h1, e⟩
  obtain ⟨m, rfl⟩ : ∃ m, n = m + 1 := ⟨n - 1, by omega⟩
  refine pigeon m (fun i => if f i = m then y else f i) (fun i h1 => ?_) fun i j h1 h2 e => ?_
  · split
    · rename_i e
      have := hne i h1
      omega
    · have := h i h1
      omega
  · change (if f i = m then y else f i) = (if f j = m then y else f j) at e
    by_cases e1 : f i = m <;> by_cases e2 : f j = m
    · exact hi i j h1 h2 (by omega)
    · rw [if_pos e1, if_neg e2] at e
      exact absurd e.symm (hne j h2)
    · rw [if_neg e1, if_pos e2] at e
      exact absurd e (hne i h1)
    · rw [if_neg e1, if_neg e2] at e
      exact hi i j h1 h2 e
theorem one_ne {p : Nat} (h : okP p = true) : ¬ Cg p (0 : Int) 1 := by
  have hp := okP_lt h
  intro hc
  have := Cg.eq (p := p) (a := 0) (b := 1) hc (by omega) (by omega)
  omega
theorem gen_power {p a : Nat} (h : okP p = true) (h0 : 0 < a) (ha : a < p) : ∃ k, (rowOf p).1 ^ k % p = a := by
  have hp := okP_lt h
  have hpos : ∀ i, 0 < (rowOf p).1 ^ i % p := fun i => by
    rcases Nat.eq_zero_or_pos ((rowOf p).1 ^ i % p) with e | e
    · exfalso
      have h1 : Cg p (((rowOf p).1 : Int) ^ i) 0 := by
        have h2 := Cg.mod (p := p) ((rowOf p).1 ^ i)
        rw [e, Int.natCast_pow] at h2
        exact h2.symm
      have h2 : Cg p ((((rowOf p).1 : Int) ^ i) ^ (p - 1)) 1 := by
        rw [← Int.pow_mul, Nat.mul_comm, Int.pow_mul]
        exact ((gen_one h).pow i).trans (Cg.of_eq Int.one_pow)
      have h3 := (h1.pow (p - 1)).symm.trans h2
      rw [Int.zero_pow (by omega)] at h3
      exact one_ne h h3
    · exact e
  obtain ⟨i, -, hi⟩ := onto (n := p - 1) (f := fun i => (rowOf p).1 ^ i % p - 1) (fun i _ => by
      have := hpos i
      have := Nat.mod_lt ((rowOf p).1 ^ i) (show p > 0 by omega)
      show (rowOf p).1 ^ i % p - 1 < p - 1
      omega) (fun i j h1 h2 e => by
      have e' : (rowOf p).1 ^ i % p = (rowOf p).1 ^ j % p := by
        have := hpos i
        have := hpos j
        change (rowOf p).1 ^ i % p - 1 = (rowOf p).1 ^ j % p - 1 at e
        omega
      have key : ∀ i j, i < j → j < p - 1 → (rowOf p).1 ^ i % p = (rowOf p).1 ^ j % p → False := fun i j hij hj e => by
        have c1 : Cg p (((rowOf p).1 : Int) ^ i) (((rowOf p).1 : Int) ^ j) := by
          have h1 := Cg.mod (p := p) ((rowOf p).1 ^ i)
          have h2 := Cg.mod (p := p) ((rowOf p).1 ^ j)
          rw [e] at h1
          rw [Int.natCast_pow] at h1 h2
          exact h1.symm.trans h2
        obtain ⟨d, rfl⟩ : ∃ d, j = i + d := ⟨j - i, by omega⟩
        rw [Int.pow_add] at c1
        have c2 : Cg p (((rowOf p).1 : Int) ^ (i * (p - 2)) * ((rowOf p).1 : Int) ^ i) 1 := by
          rw [← Int.pow_add, show i * (p - 2) + i = (p - 1) * i by
            rw [Nat.mul_comm (p - 1), ← Nat.mul_succ]
            congr 1
            omega, Int.pow_mul]
          exact ((gen_one h).pow i).trans (Cg.of_eq Int.one_pow)
        have c3 := (Cg.rfl' (x := ((rowOf p).1 : Int) ^ (i * (p - 2)))).mul c1
        rw [← Int.mul_assoc] at c3
        have c4 : Cg p (((rowOf p).1 : Int) ^ d) 1 := ((Cg.of_eq (Int.one_mul _).symm).trans (c2.symm.mul Cg.rfl')).trans (c3.symm.trans c2)
        exact gen_full h (by omega) (by omega) c4
      rcases Nat.lt_trichotomy i j with hlt | heq | hgt
      · exact absurd e' fun e => key i j hlt h2 e
      · exact heq
      · exact absurd e'.symm fun e => key j i hgt h1 e) (y := a - 1) (by omega)
  refine ⟨i, ?_⟩
  have := hpos i
  change (rowOf p).1 ^ i % p - 1 = a - 1 at hi
  omega
theorem inv_nat {p a : Nat} (h : okP p = true) (h0 : 0 < a) (ha : a < p) : Cg p ((a : Int) * ((a ^ (p - 2) % p : Nat) : Int)) 1 := by
  have hp := okP_lt h
  obtain ⟨k, hk⟩ := gen_power h h0 ha
  have h1 : Cg p (a : Int) (((rowOf p).1 : Int) ^ k) := by
    have := Cg.mod (p := p) ((rowOf p).1 ^ k)
    rw [hk, Int.natCast_pow] at this
    exact this
  refine (Cg.rfl'.mul (Cg.mod _)).trans ?_
  rw [Int.natCast_pow, Int.mul_comm, ← Int.pow_succ, show (p - 2).succ = p - 1 by omega]
  refine (h1.pow _).trans ?_
  rw [← Int.pow_mul, Nat.mul_comm, Int.pow_mul]
  exact ((gen_one h).pow k).trans (Cg.of_eq Int.one_pow)
theorem inv_any {p a : Nat} (h : okP p = true) (h0 : ¬ Cg p (a : Int) 0) : Cg p ((a : Int) * ((a ^ (p - 2) % p : Nat) : Int)) 1 := by
  have hp := okP_lt h
  have h1 : a % p ≠ 0 := fun e => h0 (by
    have := Cg.mod (p := p) a
    rw [e] at this
    exact this.symm)
  have := inv_nat h (Nat.pos_of_ne_zero h1) (Nat.mod_lt a (by omega))
  rw [← Nat.pow_mod] at this
  exact ((Cg.mod a).symm.mul Cg.rfl').trans this
theorem inv_int {p : Nat} {x : Int} (h : okP p = true) (h0 : ¬ Cg p x 0) : ∃ v, Cg p (x * v) 1 := by
  have hp := okP_lt h
  obtain ⟨a, ha⟩ : ∃ a : Nat, (a : Int) = x % (p : Int) := ⟨(x % (p : Int)).toNat, Int.toNat_of_nonneg (Int.emod_nonneg _ (by omega))⟩
  have hx : Cg p x (a : Int) := ⟨x / (p : Int), by rw [ha]; have := Int.mul_ediv_add_emod x (p : Int); omega⟩
  exact ⟨_, (hx.mul Cg.rfl').trans (inv_any h fun e => h0 (hx.trans e))⟩
theorem mul_zero_cg {p : Nat} {x y : Int} (h : okP p = true) (hxy : Cg p (x * y) 0) : Cg p x 0 ∨ Cg p y 0 := by
  by_cases hx : Cg p x 0
  · exact .inl hx
  · obtain ⟨v, hv⟩ := inv_int h hx
    refine .inr ?_
    have h1 : Cg p y (v * (x * y)) := (Cg.of_eq (Int.one_mul y).symm).trans ((hv.symm.mul Cg.rfl').trans (Cg.of_eq (by rw [Int.mul_comm x v, Int.mul_assoc])))
    exact h1.trans ((Cg.rfl'.mul hxy).trans (Cg.of_eq (Int.mul_zero _)))
end Go.Proofs.YtakjnmojigechaaGreat
namespace Go.Proofs.YtakjnmojigechaaGreat
def cfI (l : List Nat) (i : Nat) : Int := ((l.getD i 0 : Nat) : Int)
def evL (l : List Nat) (x : Int) : Int := evI (cfI l) x l.length
theorem evI_more {a : Nat → Int} {x : Int} {m : Nat} (h : ∀ i, m ≤ i → a i = 0) : ∀ t, evI a x (m + t) = evI a x m
  | 0 => rfl
  | t + 1 => by
    rw [← Nat.add_assoc, evI, evI_more h t, h (m + t) (by omega), Int.zero_mul, Int.add_zero]
theorem evL_ext (l : List Nat) (x : Int) {n : Nat} (h : l.length ≤ n) : evI (cfI l) x n = evL l x := by
  obtain ⟨t, rfl⟩ : ∃ t, n = l.length + t := ⟨n - l.length, by omega⟩
  exact evI_more (fun i hi => by rw [cfI, getD_out hi]; rfl) t
theorem evI_add (a b : Nat → Int) (x : Int) : ∀ n, evI (fun i => a i + b i) x n = evI a x n + evI b x n
  | 0 => rfl
  | n + 1 => by rw [evI, evI, evI, evI_add a b x n, Int.add_mul]; omega
theorem evI_mul (c : Int) (a : Nat → Int) (x : Int) : ∀ n, evI (fun i => c * a i) x n = c * evI a x n
  | 0 => by rw [evI, evI, Int.mul_zero]
  | n + 1 => by rw [evI, evI, evI_mul c a x n, Int.mul_add, Int.mul_assoc]
theorem ev_addP {p : Nat} (a b : List Nat) (x : Int) : Cg p (evL (addP p a b) x) (evL a x + evL b x) := by
  have hl := addP_len p a b
  rw [← evL_ext (addP p a b) x (n := max a.length b.length) hl, ← evL_ext a x (n := max a.length b.length) (by omega), ← evL_ext b x (n := max a.length b.length) (by omega), ← evI_add]
  refine evI_cg (fun i => ?_) Cg.rfl' _
  unfold cfI
  rw [addP_get]
  exact (Cg.mod _).trans (Cg.of_eq (Int.natCast_add _ _))
theorem ev_scaleP {p : Nat} (a : List Nat) (n : Nat) (x : Int) : Cg p (evL (scaleP p a n) x) ((n : Int) * evL a x) := by
  rw [← evL_ext (scaleP p a n) x (scaleP_len p a n), evL, ← evI_mul]
  refine evI_cg (fun i => ?_) Cg.rfl' _
  unfold cfI
  rw [scaleP_get]
  exact (Cg.mod _).trans (Cg.of_eq (by rw [Int.natCast_mul, Int.mul_comm]))
theorem evI_head (a : Nat → Int) (x : Int) (k : Nat) (h : ∀ i, i < k → a i = 0) : ∀ n, evI a x (k + n) = x ^ k * evI (fun i => a (k + i)) x n
  | 0 => by
    show evI a x k = x ^ k * 0
    rw [Int.mul_zero, evI_sum, ← sumI_zero k]
    have : ∀ n, n ≤ k → sumI (fun i => a i * x ^ i) n = sumI (fun _ => 0) n := fun n => by
      induction n with
      | zero => exact fun _ => rfl
      | succ n ih => intro hn; rw [sumI, sumI, ih (by omega), h n (by omega), Int.zero_mul]
    exact this k (Nat.le_refl _)
  | n + 1 => by
    rw [← Nat.add_assoc, evI, evI_head a x k h n, evI, Int.mul_add, Int.pow_add]
    congr 1
    rw [← Int.mul_assoc, ← Int.mul_assoc, Int.mul_comm (a (k + n))]
theorem ev_shiftP (a : List Nat) (k : Nat) (x : Int) : evL (shiftP a k) x = x ^ k * evL a x := by
  have e : (shiftP a k).length = k + a.length := shiftP_len a k
  unfold evL
  rw [e, evI_head _ _ k (fun i hi => by unfold cfI; rw [shiftP_get, if_pos hi]; rfl)]
  congr 2
  funext i
  unfold cfI
  rw [shiftP_get, if_neg (by omega), Nat.add_sub_cancel_left]
theorem ev_mulK {p : Nat} (a b : List Nat) (x : Int) : ∀ k, Cg p (evL (mulK p a b k) x) (evI (cfI a) x k * evL b x)
  | 0 => Cg.of_eq (by rw [mulK, evI, Int.zero_mul]; rfl)
  | k + 1 => by
    rw [mulK, evI, Int.add_mul]
    refine (ev_addP _ _ x).trans ((ev_mulK a b x k).add ?_)
    rw [ev_shiftP]
    refine (Cg.rfl'.mul (ev_scaleP b _ x)).trans (Cg.of_eq ?_)
    rw [← Int.mul_assoc, Int.mul_comm (x ^ k)]
    rfl
theorem ev_mulP {p : Nat} (a b : List Nat) (x : Int) : Cg p (evL (mulP p a b) x) (evL a x * evL b x) := ev_mulK a b x _
theorem evalP_ev {p x : Nat} (l : List Nat) : Cg p (evalP p l x : Int) (evL l x) := evalP_cg l
def quoI (a : Nat → Int) (r : Int) (n i : Nat) : Int := evI (fun j => a (i + j)) r (n - i)
theorem quoI_step (a : Nat → Int) (r : Int) {n i : Nat} (h : i < n) : quoI a r n i = a i + r * quoI a r n (i + 1) := by
  unfold quoI
  rw [show n - i = (n - (i + 1)) + 1 by omega, evI_shift]
  rw [Nat.add_zero]
  congr 3
  funext j
  congr 1
  omega
theorem quo_eq (a : Nat → Int) (r x : Int) (n : Nat) : ∀ m, m ≤ n → evI a x m = quoI a r n 0 + (x - r) * evI (fun i => quoI a r n (i + 1)) x m - quoI a r n m * x ^ m
  | 0, _ => by rw [evI, evI, Int.mul_zero, Int.pow_zero]; omega
  | m + 1, h => by
    rw [evI, quo_eq a r x n m (by omega), evI, quoI_step a r (i := m) (by omega), Int.pow_succ]
    grind
theorem quo_root (a : Nat → Int) (r x : Int) (n : Nat) : evI a x (n + 1) = evI a r (n + 1) + (x - r) * evI (fun i => quoI a r (n + 1) (i + 1)) x n := by
  have h := quo_eq a r x (n + 1) (n + 1) (Nat.le_refl _)
  have h1 : quoI a r (n + 1) (n + 1) = 0 := by unfold quoI; rw [Nat.sub_self]; rfl
  have h0 : quoI a r (n + 1) 0 = evI a r (n + 1) := by
    unfold quoI
    rw [Nat.sub_zero]
    congr 1
    funext j
    rw [Nat.zero_add]
  rw [h1, h0, Int.zero_mul, Int.sub_zero] at h
  have e : evI (fun i => quoI a r (n + 1) (i + 1)) x (n + 1) = evI (fun i => quoI a r (n + 1) (i + 1)) x n := by rw [evI, h1, Int.zero_mul, Int.add_zero]
  rw [h, e]
theorem all_zero {p : Nat} (h : okP p = true) : ∀ (n : Nat) (a : Nat → Int) (xs : Nat → Int), (∀ i j, i < n → j < n → i ≠ j → ¬ Cg p (xs i) (xs j)) → (∀ k, k < n → Cg p (evI a (xs k) n) 0) → ∀ i, i < n → Cg p (a i) 0
  | 0, _, _, _, _ => fun i hi => absurd hi (Nat.not_lt_zero _)
  | n + 1, a, xs, hx, hr => by
    have hq : ∀ i, i < n → Cg p (quoI a (xs n) (n + 1) (i + 1)) 0 := all_zero h n (fun i => quoI a (xs n) (n + 1) (i + 1)) xs (fun i j hi hj hne => hx i j (by omega) (by omega) hne) fun k hk => by
      have h1 := hr k (by omega)
      rw [quo_root a (xs n) (xs k) n] at h1
      have h2 := hr n (by omega)
      have h3 : Cg p ((xs k - xs n) * evI (fun i => quoI a (xs n) (n + 1) (i + 1)) (xs k) n) 0 := by
        have := (h1.trans h2.symm)
        obtain ⟨c, hc⟩ := this
        exact ⟨c, by rw [← hc]; omega⟩
      rcases mul_zero_cg h h3 with h4 | h4
      · exact absurd (by obtain ⟨c, hc⟩ := h4; exact ⟨c, by rw [← hc]; omega⟩) (hx k n (by omega) (by omega) (by omega))
      · exact h4
    have hq' : ∀ i, i < n + 1 → Cg p (quoI a (xs n) (n + 1) (i + 1)) 0 := fun i hi => by
      rcases Nat.lt_or_ge i n with h1 | h1
      · exact hq i h1
      · have e : i = n := by omega
        subst e
        unfold quoI
        rw [Nat.sub_self]
        exact Cg.rfl'
    have h0 : Cg p (quoI a (xs n) (n + 1) 0) 0 := by
      have e : quoI a (xs n) (n + 1) 0 = evI a (xs n) (n + 1) := by
        unfold quoI
        rw [Nat.sub_zero]
        congr 1
        funext j
        rw [Nat.zero_add]
      rw [e]
      exact hr n (by omega)
    intro i hi
    have hs := quoI_step a (xs n) hi
    have h1 : Cg p (quoI a (xs n) (n + 1) i) 0 := by
      cases i with
      | zero => exact h0
      | succ i => exact hq' i (by omega)
    rw [hs] at h1
    have h2 := (Cg.rfl' (p := p) (x := xs n)).mul (hq' i hi)
    rw [Int.mul_zero] at h2
    obtain ⟨c, hc⟩ := h1
    obtain ⟨d, hd⟩ := h2
    exact ⟨c - d, by rw [Int.mul_sub, ← hc, ← hd]; omega⟩
theorem same_values {p n : Nat} (h : okP p = true) {a b : Nat → Int} {xs : Nat → Int} (hx : ∀ i j, i < n → j < n → i ≠ j → ¬ Cg p (xs i) (xs j)) (hv : ∀ k, k < n → Cg p (evI a (xs k) n) (evI b (xs k) n)) : ∀ i, i < n → Cg p (a i) (b i) := fun i hi => by
  have := all_zero h n (fun i => a i + (-1) * b i) xs hx (fun k hk => by
    rw [evI_add, evI_mul]
    exact ((hv k hk).add (Cg.rfl' (x := (-1) * evI b (xs k) n))).trans (Cg.of_eq (by omega))) i hi
  obtain ⟨c, hc⟩ := this
  exact ⟨c, by rw [← hc]; omega⟩
end Go.Proofs.YtakjnmojigechaaGreat
namespace Go.Proofs.YtakjnmojigechaaGreat
open Go.RowKit
set_option maxRecDepth 100000 in
set_option maxHeartbeats 1000000 in
theorem pEval_any (p : Nat) (A : Option Addr) (n c x : Nat) (l : List Nat) (w : World) (hp : okP p = true) (hl : RWd w [.slice A n c] l) :
    Calls Tryz.prog 53 #[fv p, .slice A n c, .int .u64 (x : Int)] w fun e w' => e = .returned (.int .u64 ((hornP p x l : Nat) : Int)) ∧ Below w.heap.size w w' := by
  obtain ⟨rfl, h1, h2, hlt, hrd⟩ := lw_at hl
  have gm := lw_max h1 h2
  have HM := Lib.hid (fun a b w => fMul_any p a b w hp)
  have HA := Lib.hid (fun a b w => fAdd_any p a b w hp)
  have HD := Lib.hid (hornP_drop p x l)
  obtain ⟨f, hf⟩ : ∃ f, f = fun k => hornP p x (l.drop k) := ⟨_, rfl⟩
  have HF0 := Lib.hid (show f 0 = hornP p x l by rw [hf]; rfl)
  have HF9 := Lib.hid (show f l.length = 0 by rw [hf]; simp [hornP])
  have HF := Lib.hid (fun k (hk : k < l.length) => show f k = (f (k + 1) * x % p + l.getD k 0) % p by rw [hf]; exact HD.out k hk)
  rw [← HF0.out]
  clear HD hl h1 h2 hp hlt hf HF0
  obtain ⟨m, hm⟩ : ∃ m : Int, m = (l.length : Int) - 1 := ⟨_, rfl⟩
  have g0 : (l.length : Int) - 1 = m := hm.symm
  have gw : IntKind.i64.wrap m = m := wr_i64 _ (by omega) (by omega)
  have HMM := Lib.hid hm
  clear hm
  unfold fv at *
  have kf := Blk.new w 96 #[.int .u64 (p : Int)]
  have hb0 : Below w.heap.size w (w.alloc (.cells #[.int .u64 (p : Int)] 96)) := (Below.refl _ _).alloc (Nat.le_refl _) _
  go_enter Tryz.func53, Tryz.ntmps53
  go_upto_region 1 with fail
  generalize w.alloc _ = w0 at kf hb0 ⊢
  go_wp2_with fail
  clear g0 gw
  go_loopw [7, 8] (fun y i wr => ∃ (k : Nat) (j : Int), Hid (j + 1 = (k : Int)) ∧ k ≤ l.length ∧ i = .int .i64 j ∧ y = .int .u64 (f k : Int) ∧ Blk wr w.heap.size 96 #[.int .u64 (p : Int)] ∧ Below w.heap.size w wr) (fun _ i _ => (intOf i + 1).toNat)
  case atStart => exact ⟨l.length, m, Lib.hid (by have := HMM.out; omega), Nat.le_refl _, rfl, by rw [HF9.out]; rfl, kf, hb0⟩
  case round =>
    clear kf hb0
    obtain ⟨k, j, HJ, hk, rfl, rfl, kf, hb⟩ := hrel
    rcases Nat.eq_zero_or_pos k with h0 | h0
    · subst h0
      have hj : j = -1 := by have := HJ.out; omega
      subst hj
      go_wp2
      go_ret
      exact ⟨rfl, hb⟩
    · obtain ⟨i, hi⟩ : ∃ i, i = k - 1 := ⟨_, rfl⟩
      have hj : j = (i : Int) := by have := HJ.out; omega
      subst hj
      have hil : i < l.length := by omega
      obtain ⟨b, q, rfl, hbl, hc⟩ := lw_get (hrd.below hb) hil
      have HF1 := Lib.hid (HF.out i hil)
      rw [show i + 1 = k by omega] at HF1
      obtain ⟨y, hy⟩ : ∃ y, y = f k := ⟨_, rfl⟩
      rw [← hy] at HF1 ⊢
      generalize l.getD i 0 = a at *
      obtain ⟨z, hz⟩ : ∃ z, z = y * x % p := ⟨_, rfl⟩
      have HM1 := Lib.hid (fun w => by have := HM.out y x w; rw [← hz] at this; exact this)
      rw [← hz] at HF1
      have HA1 := Lib.hid (fun w => by have := HA.out z a w; rw [← HF1.out] at this; exact this)
      have HI := Lib.hid hi
      obtain ⟨y2, hy2⟩ : ∃ y2, y2 = f i := ⟨_, rfl⟩
      rw [← hy2] at HA1
      have HY2 := Lib.hid hy2
      have gi1 : (0 : Int) ≤ (i : Int) := by omega
      have gi2 : (i : Int) < (l.length : Int) := by omega
      obtain ⟨j2, hj2⟩ : ∃ j2 : Int, j2 = (i : Int) - 1 := ⟨_, rfl⟩
      have gj : (i : Int) - 1 = j2 := hj2.symm
      have gw : IntKind.i64.wrap j2 = j2 := wr_i64 _ (by omega) (by omega)
      have HJ2 := Lib.hid hj2
      clear hz hy hi HF1 hy2 hj2
      have cf := kf.cell
      have lf := kf.lt
      go_upto_region 5 with fail
      refine wpGO_begin (Later) (later_moves) [] [] [0, 1, 2, 3, 4, 5, 6, 7, 8, 9, 10] (by kernel_rfl) (by kernel_rfl) ?_
      refine wpGO_start (later_moves) ?_
      intro Wc hacc
      repeat (first | (refine wpGO_skip (later_moves) rfl rfl rfl rfl (fun _ _ _ h => h) ?_ ; simp only [Act.put, List.setIfInBounds_toArray, List.set_cons_zero, List.set_cons_succ]) | (refine wpGO_light (v := ?_) (later_moves) rfl rfl rfl rfl (fun _ _ _ h => h) ?_ ?_ ; rotate_left ; (· (intro w' hR ; (first | have hcells := later_cellsD ((later_moves).trans _ _ _ hacc hR) | skip) ; go_simp ; try with_reducible rfl)) ; simp only [Act.put, List.setIfInBounds_toArray, List.set_cons_zero, List.set_cons_succ]))
      refine wpGO_call (later_moves) rfl rfl rfl rfl (fun _ _ _ h => h) (fun _ => by go_simp <;> rfl) (fun w' hR => HM1.out _) ?_
      simp only [Act.put, List.setIfInBounds_toArray, List.set_cons_zero, List.set_cons_succ]
      repeat (first | (refine wpGO_skip (later_moves) rfl rfl rfl rfl (fun _ _ _ h => h) ?_ ; simp only [Act.put, List.setIfInBounds_toArray, List.set_cons_zero, List.set_cons_succ]) | (refine wpGO_light (v := ?_) (later_moves) rfl rfl rfl rfl (fun _ _ _ h => h) ?_ ?_ ; rotate_left ; (· (intro w' hR ; (first | have hcells := later_cellsD ((later_moves).trans _ _ _ hacc hR) | skip) ; go_simp ; try with_reducible rfl)) ; simp only [Act.put, List.setIfInBounds_toArray, List.set_cons_zero, List.set_cons_succ]))
      refine wpGO_call (later_moves) rfl rfl rfl rfl (fun _ _ _ h => h) (fun _ => by go_simp <;> rfl) (fun w' hR => HA1.out _) ?_
      simp only [Act.put, List.setIfInBounds_toArray, List.set_cons_zero, List.set_cons_succ]
      repeat (first | (refine wpGO_skip (later_moves) rfl rfl rfl rfl (fun _ _ _ h => h) ?_ ; simp only [Act.put, List.setIfInBounds_toArray, List.set_cons_zero, List.set_cons_succ]) | (refine wpGO_light (v := ?_) (later_moves) rfl rfl rfl rfl (fun _ _ _ h => h) ?_ ?_ ; rotate_left ; (· (intro w' hR ; (first | have hcells := later_cellsD ((later_moves).trans _ _ _ hacc hR) | skip) ; go_simp ; try with_reducible rfl)) ; simp only [Act.put, List.setIfInBounds_toArray, List.set_cons_zero, List.set_cons_succ]))
      refine wpGO_done rfl ?_
      intro wd hRd
      replace hacc := (later_moves).trans _ _ _ hacc hRd
      clear hRd
      have hxd := below_chain (Below.refl wr.heap.size wr).drew hacc
      replace kf := kf.below hxd kf.lt
      replace hb := below_chain hb hxd
      clear hxd hacc cf lf
      go_wp2
      go_roundw
      case rel => exact ⟨i, j2, Lib.hid (by have := HJ2.out; omega), by omega, rfl, by rw [HY2.out], kf, hb⟩
      case measure => have := HJ2.out; simp [intOf]; omega
set_option maxRecDepth 100000 in
set_option maxHeartbeats 1000000 in
theorem tDomain_any (p s n : Nat) (w : World) (hp : okP p = true) (hn : LenOk p n) (hs : s % p ≠ 0) :
    Calls Tryz.prog 108 #[fv p, .int .u64 (s : Int), .int .i64 (n : Int)] w fun e w' => ∃ g, e = .returned (.tuple #[.slice (some ⟨g, 0, none⟩) n n, .int .i64 0]) ∧ w.heap.size ≤ g ∧ Blk w' g 22 (fillC n (domR p s n)) ∧ Below w.heap.size w w' := by
  have hn4 := hn.le
  have HV := Lib.hid (fun w => fValid_any p w hp)
  have HR := Lib.hid (fun w => tRoot_any p n w hp hn)
  have HD := Lib.hid (fun w => fReduce_any p s w hp)
  have HM := Lib.hid (fun a b w => fMul_any p a b w hp)
  obtain ⟨r, hr⟩ : ∃ r, r = rootP p n := ⟨_, rfl⟩
  obtain ⟨x0, hx0⟩ : ∃ x0, x0 = s % p := ⟨_, rfl⟩
  obtain ⟨F, hF⟩ : ∃ F, F = domR p s n := ⟨_, rfl⟩
  have HF0 := Lib.hid (show F 0 = x0 by rw [hF, hx0]; rfl)
  have HF := Lib.hid (show ∀ k, F (k + 1) = F k * r % p from fun k => by rw [hF, hr]; rfl)
  rw [← hr] at HR
  rw [← hx0] at HD hs
  rw [← hF]
  have d0 : ((x0 : Int) == 0) = false := by rw [beq_eq_false_iff_ne]; omega
  have mk := mk_words n (by omega)
  have gn : (n : Int) ≤ 4096 := by omega
  have gn0 : (0 : Int) ≤ (n : Int) := by omega
  clear hr hx0 hF hp hn hs
  unfold fv at *
  have kf := Blk.new w 96 #[.int .u64 (p : Int)]
  have hb0 : Below w.heap.size w (w.alloc (.cells #[.int .u64 (p : Int)] 96)) := (Below.refl _ _).alloc (Nat.le_refl _) _
  go_enter Tryz.func108, Tryz.ntmps108
  go_wp2_with fail
  generalize w.alloc _ = w1 at kf hb0 ⊢
  refine (HV.out _).mono ?_
  rintro e w2 ⟨rfl, hbx⟩
  replace kf := kf.below hbx kf.lt
  replace hb0 := below_chain hb0 hbx
  clear hbx
  have cf := kf.cell
  go_wp2_with fail
  refine (HR.out _).mono ?_
  rintro e w3 ⟨rfl, hbx⟩
  replace kf := kf.below hbx kf.lt
  replace hb0 := below_chain hb0 hbx
  clear hbx cf
  have cf := kf.cell
  go_wp2_with fail
  refine (HD.out _).mono ?_
  rintro e w4 ⟨rfl, hbx⟩
  replace kf := kf.below hbx kf.lt
  replace hb0 := below_chain hb0 hbx
  clear hbx cf
  have cf := kf.cell
  go_wp2_with fail
  have kg := Blk.new w4 22 (fillC n fun _ => 0)
  have hal := (Below.refl w4.heap.size w4).alloc (Nat.le_refl _) (.cells (fillC n fun _ => 0) 22)
  have hg1 : w.heap.size < w4.heap.size := kf.lt
  replace kf := kf.below hal kf.lt
  replace hb0 := below_chain hb0 hal
  clear hal mk cf
  generalize w4.alloc _ = w5 at kf kg hb0 ⊢
  generalize w4.heap.size = g at kg hg1 ⊢
  have H0 := Lib.hid (upTo_zero n F fun _ => 0)
  go_loopw [1, 34] (fun y i wr => ∃ k : Nat, k ≤ n ∧ i = .int .i64 (k : Int) ∧ y = .int .u64 (F k : Int) ∧ Blk wr w.heap.size 96 #[.int .u64 (p : Int)] ∧ Blk wr g 22 (fillC n (upTo F (fun _ => 0) k)) ∧ Below w.heap.size w wr) (fun _ i _ => n - (intOf i).toNat)
  case atStart => exact ⟨0, Nat.zero_le _, rfl, by rw [HF0.out], kf, by rw [H0.out]; exact kg, hb0⟩
  case round =>
    clear kf kg hb0
    obtain ⟨k, hk, rfl, rfl, kf, kg, hb0⟩ := hrel
    by_cases hlt : k < n
    · have q1 : (k : Int) < (n : Int) := by omega
      have q2 : (0 : Int) ≤ (k : Int) := by omega
      obtain ⟨z, hz⟩ : ∃ z, z = F k := ⟨_, rfl⟩
      obtain ⟨z2, hz2⟩ : ∃ z2, z2 = F (k + 1) := ⟨_, rfl⟩
      have HST := Lib.hid (upTo_set (n := n) (G := fun _ => 0) hz)
      have HF1 := Lib.hid (HF.out k)
      rw [← hz, ← hz2] at HF1
      have HM1 := Lib.hid (fun w => by have := HM.out z r w; rw [← HF1.out] at this; exact this)
      have HZ2 := Lib.hid hz2
      rw [← hz]
      clear hz hz2 HF1
      have cg := kg.cell k
      rw [upTo_get _ _ hlt] at cg
      have fg := kg.frozen
      have lg := kg.lt
      have cf := kf.cell
      have lf := kf.lt
      have nfg : w.heap.size ≠ g := by omega
      go_upto_region 12 with fail
      have hg := set_only (w := wr) g k (.int .u64 (z : Int))
      replace kg := kg.set_ k (.int .u64 (z : Int))
      rw [HST.out] at kg
      replace kf := kf.grown hg (fun e => by have := Option.some.inj e; first | omega | (exact absurd this (by assumption)) | (exact absurd this.symm (by assumption)))
      replace hb0 := hb0.trans (below_of_only hg hb0.size (by omega))
      clear hg cg fg lg cf lf
      generalize wr.setCell _ _ = w6 at kf kg hb0 ⊢
      have cf := kf.cell
      go_wp2_with fail
      refine (HM1.out _).mono ?_
      rintro e w7 ⟨rfl, hbx⟩
      replace kf := kf.below hbx kf.lt
      replace kg := kg.below hbx kg.lt
      replace hb0 := below_chain hb0 hbx
      clear hbx cf
      go_wp2_with fail
      go_roundw
      case rel => exact ⟨k + 1, by omega, by go_num, by rw [HZ2.out], kf, kg, hb0⟩
      case measure => simp [intOf]; omega
    · obtain rfl : k = n := by omega
      have q1 : ¬ ((k : Int) < (k : Int)) := by omega
      rw [upTo_all] at kg
      go_wp2
      go_ret2
      exact ⟨g, rfl, by omega, kg, hb0⟩
set_option maxRecDepth 100000 in
set_option maxHeartbeats 1000000 in
theorem pPoints_any (L : LayR) (w : World) (hL : LayOk L) :
    Calls Tryz.prog 51 #[.agg (layCs L)] w fun e w' => ∃ g1 g2, e = .returned (.tuple #[.slice (some ⟨g1, 0, none⟩) L.block L.block, .slice (some ⟨g2, 0, none⟩) L.n L.n]) ∧ Blk w' g1 22 (fillC L.block (domR L.p 1 L.block)) ∧ Blk w' g2 22 (fillC L.n (domR L.p (rowOf L.p).1 L.n)) ∧ w.heap.size ≤ g1 ∧ w.heap.size ≤ g2 ∧ Below w.heap.size w w' := by
  obtain ⟨hp1, hp2⟩ := okP_lt hL.p
  have H1 := Lib.hid (fun w => tDomain_any L.p 1 L.block w hL.p (layLen hL).1 (by rw [Nat.mod_eq_of_lt (by omega)]; decide))
  have H2 := Lib.hid (fun w => tDomain_any L.p (rowOf L.p).1 L.n w hL.p (layLenN hL).1 (gen_mod hL.p))
  have HG := Lib.hid (fun w => fGen_any L.p w hL.p)
  generalize (rowOf L.p).1 = gn at *
  clear hL hp1 hp2
  unfold layCs fv at *
  obtain ⟨kl, kf, hb0, hsz⟩ := boxes2 w 55 96 #[.int .u64 (L.p : Int), .int .i64 (L.block : Int), .int .i64 (L.queries : Int), .int .i64 (L.k : Int), .int .i64 (L.n : Int), .int .i64 (L.secret : Int), .int .i64 (L.rows : Int), .int .i64 (L.a : Int), .int .i64 (L.b : Int), .int .i64 (L.b : Int), .int .i64 (L.b : Int)] #[.int .u64 (L.p : Int)]
  go_enter Tryz.func51, Tryz.ntmps51
  go_upto_region 2 with fail
  generalize (w.alloc _).alloc _ = w1 at kl kf hb0 hsz ⊢
  have hs1 : w.heap.size + 2 ≤ w1.heap.size := by omega
  clear hsz
  have cl := kl.cell
  have cf := kf.cell
  have ll := kl.lt
  have lf := kf.lt
  go_wp2_with fail
  refine (H1.out _).mono ?_
  rintro e w2 ⟨g1, rfl, hg1, k1, hbx⟩
  replace kl := kl.below hbx kl.lt
  replace kf := kf.below hbx kf.lt
  replace hb0 := below_chain hb0 hbx
  have hs2 := Nat.le_trans hs1 hbx.size
  clear hbx cl cf ll lf
  have cl := kl.cell
  have cf := kf.cell
  have ll := kl.lt
  have lf := kf.lt
  go_upto_region 3 with fail
  refine wpO_begin (Later) [2, 5] [0, 1, 3, 4, 2, 5, 6, 7, 8, 9, 10] (by kernel_rfl) (by kernel_rfl) ?_
  refine wpO_startK (later_moves) ?_
  intro Wc HWc hacc
  have hbW : Below w2.heap.size w2 Wc := by rw [HWc.out]; exact (Below.refl _ _).drew
  replace k1 := k1.below hbW k1.lt
  replace hb0 := below_chain hb0 hbW
  have hs3 := Nat.le_trans hs2 hbW.size
  repeat (first | (refine wpO_skip (later_moves) rfl rfl (fun _ _ _ h => h) ?_ ; simp only [Act.put, List.setIfInBounds_toArray, List.set_cons_zero, List.set_cons_succ]) | (refine wpO_light (v := ?_) (later_moves) rfl rfl (fun _ _ _ h => h) ?_ ?_ ; rotate_left ; (· (intro w' hR ; (first | have hcells := later_cellsD ((later_moves).trans _ _ _ hacc hR) | skip) ; go_simp ; try with_reducible rfl)) ; simp only [Act.put, List.setIfInBounds_toArray, List.set_cons_zero, List.set_cons_succ]))
  refine wpO_call (later_moves) rfl rfl rfl (fun _ => by go_simp <;> rfl) ((HG.out _).mono ?_)
  rintro e w3 ⟨rfl, hb3⟩
  refine ⟨_, rfl, hb3, ?_⟩
  replace hacc := (later_moves).trans _ _ _ hacc (hb3)
  simp only [Act.put, List.setIfInBounds_toArray, List.set_cons_zero, List.set_cons_succ]
  replace k1 := k1.below hb3 k1.lt
  replace hb0 := below_chain hb0 hb3
  have hs4 := Nat.le_trans hs3 hb3.size
  repeat (first | (refine wpO_skip (later_moves) rfl rfl (fun _ _ _ h => h) ?_ ; simp only [Act.put, List.setIfInBounds_toArray, List.set_cons_zero, List.set_cons_succ]) | (refine wpO_light (v := ?_) (later_moves) rfl rfl (fun _ _ _ h => h) ?_ ?_ ; rotate_left ; (· (intro w' hR ; (first | have hcells := later_cellsD ((later_moves).trans _ _ _ hacc hR) | skip) ; go_simp ; try with_reducible rfl)) ; simp only [Act.put, List.setIfInBounds_toArray, List.set_cons_zero, List.set_cons_succ]))
  refine wpO_call (later_moves) rfl rfl rfl (fun _ => by go_simp <;> rfl) ((H2.out _).mono ?_)
  rintro e w4 ⟨g2, rfl, hg2, k2, hb4⟩
  refine ⟨_, rfl, hb4, ?_⟩
  replace hacc := (later_moves).trans _ _ _ hacc (hb4)
  simp only [Act.put, List.setIfInBounds_toArray, List.set_cons_zero, List.set_cons_succ]
  replace k1 := k1.below hb4 k1.lt
  replace hb0 := below_chain hb0 hb4
  repeat (first | (refine wpO_skip (later_moves) rfl rfl (fun _ _ _ h => h) ?_ ; simp only [Act.put, List.setIfInBounds_toArray, List.set_cons_zero, List.set_cons_succ]) | (refine wpO_light (v := ?_) (later_moves) rfl rfl (fun _ _ _ h => h) ?_ ?_ ; rotate_left ; (· (intro w' hR ; (first | have hcells := later_cellsD ((later_moves).trans _ _ _ hacc hR) | skip) ; go_simp ; try with_reducible rfl)) ; simp only [Act.put, List.setIfInBounds_toArray, List.set_cons_zero, List.set_cons_succ]))
  refine wpO_done ?_
  go_wp2
  go_ret2
  exact ⟨g1, g2, rfl, k1, k2, by omega, by omega, hb0⟩
end Go.Proofs.YtakjnmojigechaaGreat
namespace Go.Proofs.YtakjnmojigechaaGreat
theorem gen_same {p a b : Nat} (h : okP p = true) (hab : a < b) (hb : b - a < p - 1) : ¬ Cg p (((rowOf p).1 : Int) ^ a) (((rowOf p).1 : Int) ^ b) := fun hc => by
  have hp := okP_lt h
  refine gen_full h (k := b - a) (by omega) hb ?_
  have hv : Cg p (((rowOf p).1 : Int) * ((rowOf p).1 : Int) ^ (p - 2)) 1 := by
    have := gen_one h
    rw [show p - 1 = (p - 2) + 1 by omega, Int.pow_succ, Int.mul_comm] at this
    exact this
  have h1 : Cg p (((rowOf p).1 : Int) ^ a * (((rowOf p).1 : Int) ^ (p - 2)) ^ a) 1 := by
    rw [← Int.mul_pow]
    exact (hv.pow a).trans (Cg.of_eq Int.one_pow)
  have h2 : Cg p (((rowOf p).1 : Int) ^ b * (((rowOf p).1 : Int) ^ (p - 2)) ^ a) (((rowOf p).1 : Int) ^ (b - a)) := by
    rw [show ((rowOf p).1 : Int) ^ b = ((rowOf p).1 : Int) ^ (b - a) * ((rowOf p).1 : Int) ^ a by rw [← Int.pow_add]; congr 1; omega, Int.mul_assoc]
    exact (Cg.rfl'.mul h1).trans (Cg.of_eq (Int.mul_one _))
  exact h2.symm.trans ((hc.symm.mul Cg.rfl').trans h1)
theorem horn_eval {p : Nat} (hp : 0 < p) (l : List Nat) (x : Nat) : hornP p x l = evalP p l x := Cg.eq (p := p) ((hornP_cg l).trans (evalP_cg l).symm) (hornP_lt hp x l) (evalP_lt hp l x)
end Go.Proofs.YtakjnmojigechaaGreat
namespace Go.Proofs.YtakjnmojigechaaGreat
theorem root_diff {p n a b : Nat} (h : okP p = true) (hn : LenOk p n) (hab : a < b) (hb : b < n) : ¬ Cg p ((rootP p n : Int) ^ a) ((rootP p n : Int) ^ b) := fun hc => by
  have hp := okP_lt h
  have hd := Nat.div_mul_cancel (Nat.dvd_of_mod_eq_zero hn.dvd)
  obtain ⟨m, hm⟩ : ∃ m, m = (p - 1) / n := ⟨_, rfl⟩
  have he : ∀ k, Cg p ((rootP p n : Int) ^ k) (((rowOf p).1 : Int) ^ (m * k)) := fun k => by
    rw [Int.pow_mul, hm]
    refine Cg.pow ?_ k
    unfold rootP
    exact (Cg.mod _).trans (Cg.of_eq (Int.natCast_pow _ _))
  rw [← hm] at hd
  have hm1 : 0 < m := by
    rcases Nat.eq_zero_or_pos m with e | e
    · rw [e, Nat.zero_mul] at hd; omega
    · exact e
  refine gen_same h (a := m * a) (b := m * b) (Nat.mul_lt_mul_of_pos_left hab hm1) ?_ ((he a).symm.trans (hc.trans (he b)))
  have h1 : m * (b - a) < m * n := Nat.mul_lt_mul_of_pos_left (by omega) hm1
  rw [Nat.mul_sub] at h1
  omega
theorem root_ne {p n : Nat} (h : okP p = true) (hn : LenOk p n) : ∀ i j, i < n → j < n → i ≠ j → ¬ Cg p ((rootP p n : Int) ^ i) ((rootP p n : Int) ^ j) := fun i j hi hj hne hc => by
  rcases Nat.lt_or_gt_of_ne hne with h1 | h1
  · exact root_diff h hn h1 hj hc
  · exact root_diff h hn h1 hi hc.symm
theorem mulF_cg {p N J : Nat} (h : okP p = true) (hN : LenOk p N) (hJ : N = 2 ^ J) (a b : List Nat) (ha : 1 ≤ a.length) (hab : a.length + b.length ≤ N + 1) (k : Nat) (hk : k < N) : Cg p (mulF p N J a b k : Int) (cfI (mulP p a b) k) := by
  have hp := okP_lt h
  refine same_values (n := N) h (a := fun k => (mulF p N J a b k : Int)) (b := cfI (mulP p a b)) (xs := fun k => (rootP p N : Int) ^ k) (root_ne h hN) (fun q hq => ?_) k hk
  unfold mulF
  refine (invP_val (q := q) _ h hN hJ hq).trans ?_
  rw [range_get, if_pos hq, evaP_eq h hN hJ a hq, evaP_eq h hN hJ b hq]
  have hl := mulP_len p a b
  rw [evL_ext _ _ (by omega)]
  refine (Cg.mod _).trans ((Cg.of_eq (Int.natCast_mul _ _)).trans ?_)
  refine ((evalP_ev a).mul (evalP_ev b)).trans ?_
  refine (ev_mulP a b _).symm.trans ?_
  unfold evL
  exact evI_cg (fun _ => Cg.rfl') domR_one _
theorem mulF_lt {p N J : Nat} (hp : 0 < p) (a b : List Nat) (k : Nat) : mulF p N J a b k < p := Nat.mod_lt _ hp
end Go.Proofs.YtakjnmojigechaaGreat
namespace Go.Proofs.YtakjnmojigechaaGreat
def termS (s pu x : Nat) (t : Int × Nat) : Int := if t.1 - 1 - (pu : Int) = (s : Int) then (x : Int) * (t.2 : Int) else 0
theorem termF_cg {p : Nat} (hp : 1 < p) (pu x : Nat) (f : Nat → Nat) (t : Int × Nat) (s : Nat) : Cg p (termF p pu x f t s : Int) ((f s : Int) - termS s pu x t) := by
  unfold termF termS
  by_cases h : 0 ≤ t.1 - 1 - (pu : Int)
  · rw [if_pos h]
    by_cases e : t.1 - 1 - (pu : Int) = (s : Int)
    · rw [if_pos e, e, Int.toNat_natCast]
      unfold putF
      rw [if_pos rfl]
      refine (Cg.mod _).trans ((Cg.of_eq (Int.natCast_add _ _)).trans ?_)
      refine (Cg.rfl'.add ((negP_cg p _ (by omega)).trans ?_)).trans (Cg.of_eq (Int.sub_eq_add_neg).symm)
      exact Cg.neg ((Cg.mod _).trans (Cg.of_eq (Int.natCast_mul _ _)))
    · rw [if_neg e]
      unfold putF
      rw [if_neg (by omega)]
      exact Cg.of_eq (by omega)
  · rw [if_neg h, if_neg (by omega)]
    exact Cg.of_eq (by omega)
theorem sub_step {p : Nat} {a b t u : Int} (h : Cg p a (b - t)) : Cg p (a - u) (b - (t + u)) := by
  obtain ⟨c, hc⟩ := h
  exact ⟨c, by omega⟩
theorem neg_step {p : Nat} {a t u : Int} (h : Cg p a (-t)) : Cg p (a - u) (-(t + u)) := by
  obtain ⟨c, hc⟩ := h
  exact ⟨c, by omega⟩
theorem secT_cg {p : Nat} (hp : 1 < p) (pu x : Nat) (f : Nat → Nat) (ts : List (Int × Nat)) (s : Nat) : ∀ n, Cg p (secT p pu x f ts n s : Int) ((f s : Int) - sumI (fun t => termS s pu x (ts.getD t (0, 0))) n)
  | 0 => Cg.of_eq (by rw [sumI]; show (f s : Int) = _; omega)
  | n + 1 => by
    rw [sumI]
    refine (termF_cg hp pu x _ _ s).trans ?_
    exact sub_step (secT_cg hp pu x f ts s n)
def sideS (p pu n rho : Nat) (rows : List RowR) (s j i : Nat) : Int := sumI (fun t => termS s pu (rho ^ (j * n + i) % p) ((sideR (rows.getD i ⟨[], [], []⟩) j).getD t (0, 0))) (sideR (rows.getD i ⟨[], [], []⟩) j).length
theorem secS_cg {p : Nat} (hp : 1 < p) (pu n rho : Nat) (rows : List RowR) (i : Nat) (f : Nat → Nat) (s : Nat) : ∀ j, Cg p (secS p pu n rho (rows.getD i ⟨[], [], []⟩) i f j s : Int) ((f s : Int) - sumI (fun j => sideS p pu n rho rows s j i) j)
  | 0 => Cg.of_eq (by rw [sumI]; show (f s : Int) = _; omega)
  | j + 1 => by
    rw [sumI]
    refine (secT_cg hp pu _ _ _ s _).trans ?_
    exact sub_step (secS_cg hp pu n rho rows i f s j)
theorem secR_cg {p : Nat} (hp : 1 < p) (pu n rho : Nat) (rows : List RowR) (s : Nat) : ∀ i, Cg p (secR p pu n rho rows i s : Int) (-(sumI (fun i => sumI (fun j => sideS p pu n rho rows s j i) 3) i))
  | 0 => Cg.of_eq rfl
  | i + 1 => by
    rw [sumI]
    refine (secS_cg hp pu n rho rows i _ s 3).trans ?_
    exact neg_step (secR_cg hp pu n rho rows s i)
theorem docI_cg {p : Nat} (hp : 1 < p) (pu n rho : Nat) (rows : List RowR) (k : Nat) (f : Nat → Nat) (s : Nat) : ∀ i, Cg p (docI p pu n rho rows k f i s : Int) ((f s : Int) - sumI (fun i => sideS p pu n rho rows s k i) i)
  | 0 => Cg.of_eq (by rw [sumI]; show (f s : Int) = _; omega)
  | i + 1 => by
    rw [sumI]
    refine (secT_cg hp pu _ _ _ s _).trans ?_
    exact sub_step (docI_cg hp pu n rho rows k f s i)
theorem docK_cg {p : Nat} (hp : 1 < p) (pu n rho : Nat) (rows : List RowR) (s : Nat) : ∀ k, Cg p (docK p pu n rho rows k s : Int) (-(sumI (fun k => sumI (fun i => sideS p pu n rho rows s k i) n) k))
  | 0 => Cg.of_eq rfl
  | k + 1 => by
    rw [sumI]
    refine (docI_cg hp pu n rho rows k _ s n).trans ?_
    exact neg_step (docK_cg hp pu n rho rows s k)
theorem secR_lt {p : Nat} (hp : 1 < p) (pu n rho : Nat) (rows : List RowR) (s : Nat) : ∀ i, secR p pu n rho rows i s < p := by
  have hT : ∀ (x : Nat) (f : Nat → Nat) ts t, (∀ k, f k < p) → ∀ k, secT p pu x f ts t k < p := fun x f ts t hf => by
    induction t with
    | zero => exact hf
    | succ t ih =>
      intro k
      show termF p pu x (secT p pu x f ts t) _ k < _
      unfold termF
      split
      · unfold putF
        split
        · exact Nat.mod_lt _ (by omega)
        · exact ih k
      · exact ih k
  have hS : ∀ r i (f : Nat → Nat), (∀ k, f k < p) → ∀ j k, secS p pu n rho r i f j k < p := fun r i f hf j => by
    induction j with
    | zero => exact hf
    | succ j ih => exact hT _ _ _ _ ih
  have hR : ∀ i k, secR p pu n rho rows i k < p := fun i => by
    induction i with
    | zero => intro k; show 0 < p; omega
    | succ i ih => exact hS _ _ _ ih 3
  exact fun i => hR i s
theorem docK_lt {p : Nat} (hp : 1 < p) (pu n rho : Nat) (rows : List RowR) (s : Nat) : ∀ k, docK p pu n rho rows k s < p := by
  have hT : ∀ (x : Nat) (f : Nat → Nat) ts t, (∀ k, f k < p) → ∀ k, secT p pu x f ts t k < p := fun x f ts t hf => by
    induction t with
    | zero => exact hf
    | succ t ih =>
      intro k
      show termF p pu x (secT p pu x f ts t) _ k < _
      unfold termF
      split
      · unfold putF
        split
        · exact Nat.mod_lt _ (by omega)
        · exact ih k
      · exact ih k
  have hI : ∀ k (f : Nat → Nat), (∀ s, f s < p) → ∀ i s, docI p pu n rho rows k f i s < p := fun k f hf i => by
    induction i with
    | zero => exact hf
    | succ i ih => exact hT _ _ _ _ ih
  have hK : ∀ k s, docK p pu n rho rows k s < p := fun k => by
    induction k with
    | zero => intro s; show 0 < p; omega
    | succ k ih => exact hI _ _ ih n
  exact fun k => hK k s
theorem secR_docK {p : Nat} (hp : 1 < p) (pu rho : Nat) (rows : List RowR) (n s : Nat) : secR p pu n rho rows n s = docK p pu n rho rows 3 s := by
  refine Cg.eq (p := p) ((secR_cg hp pu n rho rows s n).trans (Cg.trans (Cg.of_eq ?_) (docK_cg hp pu n rho rows s 3).symm)) (secR_lt hp _ _ _ _ _ _) (docK_lt hp _ _ _ _ _ _)
  rw [sumI_swap (fun i j => sideS p pu n rho rows s j i) 3 n]
theorem coef_same {L : LayR} (hp : 1 < L.p) (pu rho : Nat) (rows : List RowR) : coefP L pu rho rows = coefD L pu rho rows := by
  unfold coefP coefD
  rw [List.map_congr_left fun s _ => secR_docK hp pu rho rows rows.length s]
end Go.Proofs.YtakjnmojigechaaGreat
namespace Go.Proofs.YtakjnmojigechaaGreat
theorem linOk_vars {p : Nat} {n : Int} {l : List (Int × Nat)} (h : linOk p n l = true) : ∀ t ∈ l, 0 ≤ t.1 ∧ t.1 < n := fun t ht => by
  obtain ⟨i, hi, rfl⟩ := List.getElem_of_mem ht
  unfold linOk at h
  have h1 := List.all_eq_true.1 h i (List.mem_range.2 hi)
  have e : l.getD i (0, 0) = l[i] := by rw [List.getD_eq_getElem?_getD, List.getElem?_eq_getElem hi]; rfl
  unfold linBad at h1
  rw [e] at h1
  simp only [Bool.not_eq_true', Bool.or_eq_false_iff, decide_eq_false_iff_not] at h1
  omega
theorem varsOk_of {p : Nat} {pub vars : Int} {rows : List RowR} (h : tabOk p pub vars rows = true) : VarsOk vars rows := fun r hr k hk t ht => by
  unfold tabOk at h
  rw [Bool.and_eq_true] at h
  have h1 := List.all_eq_true.1 h.2 r hr
  unfold rowOk at h1
  rw [Bool.and_eq_true, Bool.and_eq_true] at h1
  unfold sideR at ht
  rcases (show k = 0 ∨ k = 1 ∨ k = 2 by omega) with e | e | e <;> subst e
  · exact linOk_vars h1.1.1 t ht
  · exact linOk_vars h1.1.2 t ht
  · exact linOk_vars h1.2 t ht
theorem tabFor_of {L : LayR} {p pu : Nat} {vars bl bw qs : Int} {rows : List RowR} (h : tabOk p (pu : Int) vars rows = true) (hF : LayFor L ⟨p, (pu : Int), vars, rows.length, bl, bw, qs⟩) : TabFor L pu vars rows := by
  simp only [tabOk, Bool.and_eq_true, Bool.not_eq_true', decide_eq_false_iff_not] at h
  have h1 : L.rows = rows.length := by rw [hF.eq]; rfl
  have h2 : L.secret = (vars - 1 - (pu : Int)).toNat := by rw [hF.eq]; rfl
  have h3 := hF.vars
  simp only at h3
  exact ⟨h1, by omega, by omega⟩
end Go.Proofs.YtakjnmojigechaaGreat
namespace Go.Proofs.YtakjnmojigechaaGreat
open Go.RowKit
theorem vecP_ok (p s : Nat) (r : List Nat) (m : Nat) (hp : 0 < p) : elOk (vecP p s r m) m p = true := by
  unfold elOk vecP
  rw [Bool.and_eq_true]
  refine ⟨by simp, List.all_eq_true.2 fun x hx => ?_⟩
  obtain ⟨k, -, rfl⟩ := List.mem_map.1 hx
  exact decide_eq_true (Nat.mod_lt _ hp)
theorem coins_seed (L : LayR) (s : Nat) (hp : 0 < L.p) : coinsOk L (rowsP L s (L.a + L.b + L.b + L.b)) (vecP L.p s [1] L.k) (vecP L.p s [2] (L.k + L.block - 2)) (vecP L.p s [3] (L.block + 2 * L.queries - 1)) (vecP bigQ s [4] L.n) = true := by
  unfold coinsOk
  simp only [vecP_ok _ _ _ _ hp, vecP_ok bigQ _ _ _ (show 0 < bigQ by decide)]
  have : (rowsP L s (L.a + L.b + L.b + L.b)).all (fun l => elOk l L.queries L.p) = true := List.all_eq_true.2 fun l hl => by
    obtain ⟨k, -, rfl⟩ := List.mem_map.1 hl
    exact vecP_ok _ _ _ _ hp
  simp [rowsP] at this ⊢
  exact this
theorem rlin_one {w : World} {b : Nat} {t : TypeId} (k : Blk w b t #[.int .i64 1, .int .u64 1]) : RLin w [.slice (some ⟨b, 0, none⟩) 1 1] [(1, 1)] := by
  refine ⟨_, 1, 1, rfl, rfl, Nat.le_refl _, by simp [maxLen], fun i hi => ⟨_, [.int .i64 1, .int .u64 1], rfl, rfl, fun j hj => ?_, ?_⟩⟩
  · obtain rfl : i = 0 := by simpa using hi
    rw [add_none, show 0 + (0 * 2 + j) = j by omega, k.cell]
    simp
  · obtain rfl : i = 0 := by simpa using hi
    exact ⟨rfl, by simp, by simp⟩
def row1 : RowR := ⟨[(1, 1)], [(1, 1)], [(1, 1)]⟩
theorem rrow_one {w : World} {b1 b2 b3 b4 : Nat} {t u : TypeId} (k1 : Blk w b1 t #[.int .i64 1, .int .u64 1]) (k2 : Blk w b2 t #[.int .i64 1, .int .u64 1]) (k3 : Blk w b3 t #[.int .i64 1, .int .u64 1]) (k4 : Blk w b4 u #[.slice (some ⟨b1, 0, none⟩) 1 1, .slice (some ⟨b2, 0, none⟩) 1 1, .slice (some ⟨b3, 0, none⟩) 1 1]) :
    RSl 3 RRow w [.slice (some ⟨b4, 0, none⟩) 1 1] [row1] := by
  refine ⟨_, 1, 1, rfl, rfl, Nat.le_refl _, by simp [maxLen], fun i hi => ⟨_, [.slice (some ⟨b1, 0, none⟩) 1 1, .slice (some ⟨b2, 0, none⟩) 1 1, .slice (some ⟨b3, 0, none⟩) 1 1], rfl, rfl, fun j hj => ?_, ?_⟩⟩
  · obtain rfl : i = 0 := by simpa using hi
    rw [add_none, show 0 + (0 * 3 + j) = j by omega, k4.cell]
    simp
  · obtain rfl : i = 0 := by simpa using hi
    exact ⟨_, _, _, rfl, rlin_one k1, rlin_one k2, rlin_one k3⟩
def lay1 : LayR := ⟨97, 2, 1, 3, 8, 1, 1, 1, 1⟩
theorem lay1_new : newLay ⟨97, 0, 2, 1, 2, 1, 1⟩ = lay1 := by kernel_rfl
theorem lay1_err : newErr ⟨97, 0, 2, 1, 2, 1, 1⟩ = 0 := by decide +kernel
theorem tab1_ok : tabOk 97 0 2 [row1] = true := by decide +kernel
theorem lay1_ok : LayOk lay1 := ⟨by decide, by decide, by decide, by decide, by decide, by decide, ⟨3, rfl⟩, by decide, by decide, by decide, by decide, by decide, by decide, by decide, by decide, by decide, by decide, by decide, by decide⟩
theorem lay1_cs : layCs lay1 = #[.int .u64 97, .int .i64 2, .int .i64 1, .int .i64 3, .int .i64 8, .int .i64 1, .int .i64 1, .int .i64 1, .int .i64 1, .int .i64 1, .int .i64 1] := rfl
theorem new1_post {e : Ending} (h : NewPost ⟨97, 0, 2, 1, 2, 1, 1⟩ e) : e = .returned (.tuple #[.agg (layCs lay1), .int .i64 0]) ∧ LayOk lay1 := by
  obtain ⟨lcs, er, rfl, h | h⟩ := h
  · exact absurd (h.2.2.trans lay1_err) h.1
  · obtain ⟨rfl, L, h1, h2, rfl⟩ := h
    have := h2.eq.trans lay1_new
    subst this
    exact ⟨rfl, h1⟩
set_option maxRecDepth 100000 in
set_option maxHeartbeats 2000000 in
theorem rFromSeedG_any (L : LayR) (s : Nat) (w : World) (hL : LayOk L) (hs : s < 18446744073709551616) :
    Calls Tryz.prog 39 #[.agg (layCs L), .int .u64 s] w fun e w' => ∃ v0 v1 v2 v3 v4 n cs, e = .returned (.agg #[v0, v1, v2, v3, v4]) ∧ w'.ownsRow w.heap.size 28 1 v0 n cs ∧ GRows w.heap.size w' v0 cs (rowsP L s (L.a + L.b + L.b + L.b)) ∧ w'.ownsRow w.heap.size 22 1 v1 L.k (U64 (vecP L.p s [1] L.k)) ∧ w'.ownsRow w.heap.size 22 1 v2 (L.k + L.block - 2) (U64 (vecP L.p s [2] (L.k + L.block - 2))) ∧ w'.ownsRow w.heap.size 22 1 v3 (L.block + 2 * L.queries - 1) (U64 (vecP L.p s [3] (L.block + 2 * L.queries - 1))) ∧ w'.ownsRow w.heap.size 22 1 v4 L.n (U64 (vecP bigQ s [4] L.n)) ∧ Below w.heap.size w w' := by
  have hpp := okP_lt hL.p
  have HT := Lib.hid (fun w => rTotal_any L.p L.block L.queries L.k L.n L.secret L.rows L.a L.b L.b L.b w hL.a hL.b hL.b hL.b)
  have HS := Lib.hid (fun r m g w kg hr hlen hm => rsqx_any L.p s r m g w (by omega) hpp.2 kg hr hlen hm)
  have HS4 := Lib.hid (fun r m g w kg hr hlen hm => rsqx_any bigQ s r m g w (by decide) (by decide) kg hr hlen hm)
  have hT4 : L.a + L.b + L.b + L.b ≤ 400000 := by have := hL.a; have := hL.b; omega
  have hq2 := hL.q2
  generalize L.a + L.b + L.b + L.b = T at *
  obtain ⟨x, hx⟩ : ∃ x, x = s % bigQ := ⟨_, rfl⟩
  have e1 : (s : Int) % 18446744069414584321 = (x : Int) := by rw [hx]; unfold bigQ; omega
  have e2 : (s : Int).tmod 18446744069414584321 = (x : Int) := by rw [Int.tmod_eq_emod_of_nonneg (by omega)]; exact e1
  rw [← hx] at HS HS4
  clear hx
  unfold layCs at *
  go_enter Tryz.func39, Tryz.ntmps39
  go_upto_region 3 with fail
  obtain ⟨kl, kz, kc, hb0, hsz⟩ := boxes3 w 39 42 42 #[.int .u64 (L.p : Int), .int .i64 (L.block : Int), .int .i64 (L.queries : Int), .int .i64 (L.k : Int), .int .i64 (L.n : Int), .int .i64 (L.secret : Int), .int .i64 (L.rows : Int), .int .i64 (L.a : Int), .int .i64 (L.b : Int), .int .i64 (L.b : Int), .int .i64 (L.b : Int)] #[.slice none 0 0, .slice none 0 0, .slice none 0 0, .slice none 0 0, .slice none 0 0] #[.slice none 0 0, .slice none 0 0, .slice none 0 0, .slice none 0 0, .slice none 0 0]
  generalize ((w.alloc _).alloc _).alloc _ = w3 at kl kz kc hb0 hsz ⊢
  obtain ⟨N, hN⟩ : ∃ N, N = w3.heap.size := ⟨_, rfl⟩
  rw [← hN] at hsz
  have hNw : N ≤ w3.heap.size := by omega
  have hN2 : w.heap.size + 2 < N := by omega
  clear hN hsz
  go_wp2_with fail
  go_loopw [7] (fun y wr => ∃ (i : Nat) (v : Value) (cs : List Value), i ≤ T ∧ y = .int .i64 (i : Int) ∧ Blk wr w.heap.size 39 #[.int .u64 (L.p : Int), .int .i64 (L.block : Int), .int .i64 (L.queries : Int), .int .i64 (L.k : Int), .int .i64 (L.n : Int), .int .i64 (L.secret : Int), .int .i64 (L.rows : Int), .int .i64 (L.a : Int), .int .i64 (L.b : Int), .int .i64 (L.b : Int), .int .i64 (L.b : Int)] ∧ Blk wr (w.heap.size + 1) 42 #[.slice none 0 0, .slice none 0 0, .slice none 0 0, .slice none 0 0, .slice none 0 0] ∧ Blk wr (w.heap.size + 1 + 1) 42 #[v, .slice none 0 0, .slice none 0 0, .slice none 0 0, .slice none 0 0] ∧ wr.ownsRow N 28 1 v i cs ∧ GRows N wr v cs (rowsP L s i) ∧ Below w.heap.size w wr ∧ N ≤ wr.heap.size) (fun y _ => T - (intOf y).toNat)
  case atStart => exact ⟨0, .slice none 0 0, [], Nat.zero_le _, rfl, kl, kz, kc, ⟨rfl, .inl ⟨rfl, rfl⟩⟩, grows_nil _ _ _, hb0, hNw⟩
  case round =>
    clear kl kz kc hb0 hNw
    obtain ⟨i, v, cs, hi, rfl, kl, kz, kc, hown, hgr, hb0, hNw⟩ := hrel
    have cl := kl.cell
    have ll := kl.lt
    by_cases hlt : i < T
    · have g1 : (0 : Int) ≤ (i : Int) := by omega
      have g2 : (i : Int) < (T : Int) := by omega
      have ew : IntKind.u64.wrap (i : Int) = (i : Int) := by rw [IntKind.wrap_u64]; omega
      have HR := Lib.hid (rowsP_next L s i)
      go_wp2_with fail
      refine (HT.out _).mono ?_
      rintro e w4 ⟨rfl, hb4⟩
      replace kl := kl.below hb4 kl.lt
      replace kz := kz.below hb4 kz.lt
      replace kc := kc.below hb4 kc.lt
      replace hown := own_below hown hb4 (Nat.le_refl _)
      replace hgr := grows_below hgr hb4
      have hN4 : N ≤ w4.heap.size := by have := hb4.size; omega
      replace hb0 := below_chain hb0 hb4
      clear cl ll hb4 hNw
      have cl := kl.cell
      have cc := kc.cell
      have x1 : w.heap.size < N := by omega
      have x2 : w.heap.size + 1 + 1 < N := by omega
      have x3 : w.heap.size ≠ N := by omega
      have x4 : w.heap.size + 1 + 1 ≠ N := by omega
      go_upto_region 6 with fail
      refine wpV_begin (FromX N N) [9, 10, 11, 12, 14] [14] [0, 1, 2, 3, 4, 5, 6, 7, 8, 9, 10, 11, 12, 13, 14] (by kernel_rfl) (by kernel_rfl) ?_
      refine wpV_startK (fromX_moves N N) ?_
      intro Wc HWc hacc
      have hbW : Below w4.heap.size w4 Wc := by rw [HWc.out]; exact (Below.refl _ _).drew
      replace kl := kl.below hbW kl.lt
      replace kz := kz.below hbW kz.lt
      replace kc := kc.below hbW kc.lt
      replace hown := own_below hown hbW (Nat.le_refl _)
      replace hgr := grows_below hgr hbW
      have hNc : N ≤ Wc.heap.size := by have := hbW.size; omega
      replace hb0 := below_chain hb0 hbW
      clear HWc hbW
      repeat (first | (refine wpV_skip (fromX_moves N N) rfl rfl rfl (fun _ _ _ h => h) ?_ ; simp only [Act.put, List.setIfInBounds_toArray, List.set_cons_zero, List.set_cons_succ]) | (refine wpV_light (v := ?_) (fromX_moves N N) rfl rfl rfl (fun _ _ _ h => h) ?_ ?_ ; rotate_left ; (· (intro w' hR ; (first | have hcells := fromX_cellsD ((fromX_moves N N).trans _ _ _ hacc (hR rfl)) | skip) ; clear hR ; go_simp ; try with_reducible rfl)) ; simp only [Act.put, List.setIfInBounds_toArray, List.set_cons_zero, List.set_cons_succ]))
      refine wpV_heavy (fromX_moves N N) rfl rfl rfl ?_
      go_simp
      refine ⟨fun _ => fromX_below ((Below.refl _ _).alloc (Nat.le_refl _) _) hNc, ?_⟩
      have hal := (Below.refl Wc.heap.size Wc).alloc (Nat.le_refl _) (.cells #[.int .u64 (x : Int), .int .u64 0, .int .u64 (i : Int)] 22)
      have kA := Blk.new Wc 22 #[.int .u64 (x : Int), .int .u64 0, .int .u64 (i : Int)]
      replace kl := kl.below hal kl.lt
      replace kz := kz.below hal kz.lt
      replace kc := kc.below hal kc.lt
      replace hown := own_below hown hal (Nat.le_refl _)
      replace hgr := grows_below hgr hal
      have hN6 : N ≤ (Wc.alloc (.cells #[.int .u64 (x : Int), .int .u64 0, .int .u64 (i : Int)] 22)).heap.size := by have := hal.size; omega
      replace hb0 := below_chain hb0 hal
      try simp only [Act.put, List.setIfInBounds_toArray, List.set_cons_zero, List.set_cons_succ]
      generalize Wc.alloc _ = w6 at kl kz kc hown hgr hb0 kA hN6 ⊢
      generalize Wc.heap.size = gA at kA ⊢
      clear hal hNc hacc cl cc
      have hacc := (fromX_moves N N).refl w6
      have kA' : Blk w6 gA 22 (U64 (x :: [0, i])).toArray := by simpa [U64] using kA
      have HC := Lib.hid (HS.out [0, i] L.queries gA w6 kA' (by intro y hy; simp at hy; omega) (by simp) (by omega))
      clear kA kA'
      refine wpV_call (fromX_moves N N) rfl rfl rfl (fun _ => by go_simp <;> rfl) ((HC.out).mono ?_)
      rintro e w7 ⟨va, rfl, hva, hb7⟩
      refine ⟨_, rfl, fun _ => fromX_below hb7 hN6, ?_⟩
      replace hacc := (fromX_moves N N).trans _ _ _ hacc (fromX_below hb7 hN6)
      simp only [Act.put, List.setIfInBounds_toArray, List.set_cons_zero, List.set_cons_succ]
      obtain ⟨Av, cv, rfl, -⟩ := own_form hva
      have hvx := hva
      replace kl := kl.below hb7 kl.lt
      replace kz := kz.below hb7 kz.lt
      replace kc := kc.below hb7 kc.lt
      have hlv : ∀ q, v.ownBlock = some q → q < w6.heap.size := fun q e => (hown.lt q e).2
      replace hown := own_below hown hb7 (Nat.le_refl _)
      replace hgr := grows_below hgr hb7
      have hx7 := rwx_own (N := N) (gb := v.ownBlock) hvx (vecP_lt _ _ _ _ (by omega) hpp.2) hN6 hlv
      have hN7 : N ≤ w7.heap.size := by have := hb7.size; omega
      replace hb0 := below_chain hb0 hb7
      clear hva hvx hlv hb7 hN6 hacc HC
      have hacc := (fromX_moves N N).refl w7
      refine wpV_heavy (fromX_moves N N) rfl rfl rfl ?_
      go_simp
      refine ⟨fun _ => fromX_below ((Below.refl _ _).alloc (Nat.le_refl _) _) hN7, ?_⟩
      have hal := (Below.refl w7.heap.size w7).alloc (Nat.le_refl _) (.cells #[.slice Av L.queries cv] 28)
      have hrd := rd_one w7 (.slice Av L.queries cv) 28
      replace kl := kl.below hal kl.lt
      replace kz := kz.below hal kz.lt
      replace kc := kc.below hal kc.lt
      replace hown := own_below hown hal (Nat.le_refl _)
      replace hgr := grows_below hgr hal
      replace hx7 := rwx_keep hx7 hal.size (fun b _ h2 _ => hal.block b h2)
      have hN8 : N ≤ (w7.alloc (.cells #[.slice Av L.queries cv] 28)).heap.size := by have := hal.size; omega
      replace hb0 := below_chain hb0 hal
      try simp only [Act.put, List.setIfInBounds_toArray, List.set_cons_zero, List.set_cons_succ]
      generalize w7.alloc _ = w8 at kl kz kc hown hgr hx7 hb0 hrd hN8 ⊢
      generalize w7.heap.size = g7 at hrd ⊢
      clear hal hN7 hacc
      have hacc := (fromX_moves N N).refl w8
      have cc := kc.cell
      repeat (first | (refine wpV_skip (fromX_moves N N) rfl rfl rfl (fun _ _ _ h => h) ?_ ; simp only [Act.put, List.setIfInBounds_toArray, List.set_cons_zero, List.set_cons_succ]) | (refine wpV_light (v := ?_) (fromX_moves N N) rfl rfl rfl (fun _ _ _ h => h) ?_ ?_ ; rotate_left ; (· (intro w' hR ; (first | have hcells := fromX_cellsD ((fromX_moves N N).trans _ _ _ hacc (hR rfl)) | skip) ; clear hR ; go_simp ; try with_reducible rfl)) ; simp only [Act.put, List.setIfInBounds_toArray, List.set_cons_zero, List.set_cons_succ]))
      refine wpV_heavy (fromX_moves N N) rfl rfl rfl ?_
      refine wp_append_rd _ _ rfl el_ww rfl hown rfl hrd (by intro u hu; simp at hu; subst hu; rfl) (by omega) hN8 ?_
      intro v' wn hown' hgrow hblk
      have hvb : ∀ q, v.ownBlock = some q → N ≤ q := fun q e => (hown.lt q e).1
      refine ⟨fun _ => fromX_row hgrow hN8 hvb, ?_⟩
      have hgn := grows_app hgr hx7 hgrow hblk
      rw [HR.out] at hgn
      replace kl := kl.grown hgrow (fun e => by first | (have := hvb _ e; omega) | (have := hvb _ e.symm; omega))
      replace kz := kz.grown hgrow (fun e => by first | (have := hvb _ e; omega) | (have := hvb _ e.symm; omega))
      replace kc := kc.grown hgrow (fun e => by first | (have := hvb _ e; omega) | (have := hvb _ e.symm; omega))
      replace hb0 := hb0.trans ((lw_grow hown hgrow hN8).mono (by omega))
      have hNn : N ≤ wn.heap.size := by have := hgrow.size; omega
      obtain ⟨Aw, cw, rfl, -⟩ := own_form hown'
      clear hown hgr hx7 hgrow hblk hvb hN8 hrd cc hacc
      have hacc := (fromX_moves N N).refl wn
      have cc := kc.cell
      have fc := kc.frozen
      try simp only [Act.put, List.setIfInBounds_toArray, List.set_cons_zero, List.set_cons_succ]
      repeat (first | (refine wpV_skip (fromX_moves N N) rfl rfl rfl (fun _ _ _ h => h) ?_ ; simp only [Act.put, List.setIfInBounds_toArray, List.set_cons_zero, List.set_cons_succ]) | (refine wpV_light (v := ?_) (fromX_moves N N) rfl rfl rfl (fun _ _ _ h => h) ?_ ?_ ; rotate_left ; (· (intro w' hR ; (first | have hcells := fromX_cellsD ((fromX_moves N N).trans _ _ _ hacc (hR rfl)) | skip) ; clear hR ; go_simp ; try with_reducible rfl)) ; simp only [Act.put, List.setIfInBounds_toArray, List.set_cons_zero, List.set_cons_succ]))
      refine wpV_heavy (fromX_moves N N) rfl rfl rfl ?_
      go_simp
      refine ⟨fun h => Bool.noConfusion h, ?_⟩
      have hsg : wn.grownBy (wn.setCell ⟨w.heap.size + 1 + 1, 0, none⟩ (.slice Aw (i + 1) cw)) (some (w.heap.size + 1 + 1)) := grown_setCell' (p := ⟨w.heap.size + 1 + 1, 0, none⟩) (grown_refl' wn _) (.inl rfl) _
      replace kc := kc.set_ 0 (.slice Aw (i + 1) cw)
      simp at kc
      replace kl := kl.grown hsg (fun e => by have := Option.some.inj e; omega)
      replace kz := kz.grown hsg (fun e => by have := Option.some.inj e; omega)
      have hown2 := own_stay hown' hsg (by omega)
      replace hgn := grows_only hgn hsg (by omega)
      replace hb0 := hb0.trans (below_of_only hsg hb0.size (by omega))
      have hNz := Nat.le_trans hNn hsg.size
      clear hown' hsg cc fc hNn hacc
      generalize wn.setCell _ _ = wz at kl kz kc hown2 hgn hb0 hNz ⊢
      have hacc := (fromX_moves N N).refl wz
      repeat (first | (refine wpV_skip (fromX_moves N N) rfl rfl rfl (fun _ _ _ h => h) ?_ ; simp only [Act.put, List.setIfInBounds_toArray, List.set_cons_zero, List.set_cons_succ]) | (refine wpV_light (v := ?_) (fromX_moves N N) rfl rfl rfl (fun _ _ _ h => h) ?_ ?_ ; rotate_left ; (· (intro w' hR ; (first | have hcells := fromX_cellsD ((fromX_moves N N).trans _ _ _ hacc (hR rfl)) | skip) ; clear hR ; go_simp ; try with_reducible rfl)) ; simp only [Act.put, List.setIfInBounds_toArray, List.set_cons_zero, List.set_cons_succ]))
      refine wpV_done ?_
      go_wp2
      go_roundw
      case rel => exact ⟨i + 1, .slice Aw (i + 1) cw, _, by omega, by go_num, kl, kz, kc, hown2, hgn, hb0, hNz⟩
      case measure => simp [intOf]; omega
    · obtain rfl : i = T := by omega
      clear ll
      have ll := kl.lt
      have g2 : ¬ ((i : Int) < (i : Int)) := by omega
      go_wp2_with fail
      refine (HT.out _).mono ?_
      rintro e w4 ⟨rfl, hb4⟩
      replace kl := kl.below hb4 kl.lt
      replace kz := kz.below hb4 kz.lt
      replace kc := kc.below hb4 kc.lt
      replace hown := own_below hown hb4 (Nat.le_refl _)
      replace hgr := grows_below hgr hb4
      replace hb0 := below_chain hb0 hb4
      replace hNw := Nat.le_trans hNw hb4.size
      clear cl ll hb4
      have q1 := hL.b1
      have q2 := hL.b2
      have q3 := hL.q1
      have q5 := hL.k
      have q6 := hL.n2
      have w1 : IntKind.i64.wrap ((L.k : Int) + (L.block : Int)) = (L.k : Int) + (L.block : Int) := wr_i64 _ (by omega) (by omega)
      obtain ⟨m2, hm2⟩ : ∃ m2, m2 = L.k + L.block - 2 := ⟨_, rfl⟩
      obtain ⟨m3, hm3⟩ : ∃ m3, m3 = L.block + 2 * L.queries - 1 := ⟨_, rfl⟩
      have w2 : IntKind.i64.wrap ((L.k : Int) + (L.block : Int) - 2) = (m2 : Int) := by rw [wr_i64 _ (by omega) (by omega)]; omega
      have w5 : IntKind.i64.wrap (2 * (L.queries : Int)) = 2 * (L.queries : Int) := wr_i64 _ (by omega) (by omega)
      have w6 : IntKind.i64.wrap ((L.block : Int) + 2 * (L.queries : Int)) = (L.block : Int) + 2 * (L.queries : Int) := wr_i64 _ (by omega) (by omega)
      have w7 : IntKind.i64.wrap ((L.block : Int) + 2 * (L.queries : Int) - 1) = (m3 : Int) := by rw [wr_i64 _ (by omega) (by omega)]; omega
      have u1 : L.k ≤ 65536 := by omega
      have u2 : m2 ≤ 65536 := by omega
      have u3 : m3 ≤ 65536 := by omega
      have u4 : L.n ≤ 65536 := by omega
      have HM2 := Lib.hid hm2
      have HM3 := Lib.hid hm3
      clear hm2 hm3 q1 q2 q3 q5 q6 hlt hi
      have cl := kl.cell
      go_wp2_with fail
      have hal := (Below.refl w4.heap.size w4).alloc (Nat.le_refl _) (.cells #[.int .u64 (x : Int), .int .u64 1] 22)
      have kA := Blk.new w4 22 #[.int .u64 (x : Int), .int .u64 1]
      replace kl := kl.below hal kl.lt
      replace kz := kz.below hal kz.lt
      replace kc := kc.below hal kc.lt
      replace hgr := grows_below hgr hal
      replace hown := own_below hown hal (Nat.le_refl _)
      replace hb0 := below_chain hb0 hal
      replace hNw := Nat.le_trans hNw hal.size
      clear cl hal
      generalize w4.alloc _ = a1 at kl kz kc hgr hown  hb0 hNw kA ⊢
      generalize w4.heap.size = gA1 at kA ⊢
      have HC := Lib.hid (HS.out [1] L.k gA1 a1 (by simpa [U64] using kA) (by intro y hy; simp at hy; omega) (by simp) u1)
      clear kA
      skip
      refine HC.out.mono ?_
      rintro e b1 ⟨v1, rfl, hv, hb⟩
      have o1 := own_base hv hNw
      replace kl := kl.below hb kl.lt
      replace kz := kz.below hb kz.lt
      replace kc := kc.below hb kc.lt
      replace hgr := grows_below hgr hb
      replace hown := own_below hown hb (Nat.le_refl _)
      replace hb0 := below_chain hb0 hb
      replace hNw := Nat.le_trans hNw hb.size
      clear hv hb HC
      obtain ⟨A1, c1, rfl, -⟩ := own_form o1
      have cc := kc.cell
      have fc := kc.frozen
      go_upto_region 8 with fail
      have hsg : b1.grownBy (b1.setCell ⟨w.heap.size + 1 + 1, 1, none⟩ (.slice A1 L.k c1)) (some (w.heap.size + 1 + 1)) := grown_setCell' (p := ⟨w.heap.size + 1 + 1, 1, none⟩) (grown_refl' b1 _) (.inl rfl) _
      replace kc := kc.set_ 1 (.slice A1 L.k c1)
      simp at kc
      replace kl := kl.grown hsg (fun e => by have := Option.some.inj e; omega)
      replace kz := kz.grown hsg (fun e => by have := Option.some.inj e; omega)
      replace hgr := grows_only hgr hsg (by omega)
      replace hown := own_stay hown hsg (by omega)
      replace o1 := own_stay o1 hsg (by omega)
      replace hb0 := hb0.trans (below_of_only hsg hb0.size (by omega))
      replace hNw := Nat.le_trans hNw hsg.size
      clear hsg cc fc
      generalize b1.setCell _ _ = d1 at kl kz kc hgr hown o1 hb0 hNw ⊢
      have cl := kl.cell
      go_wp2_with fail
      have hal := (Below.refl d1.heap.size d1).alloc (Nat.le_refl _) (.cells #[.int .u64 (x : Int), .int .u64 2] 22)
      have kA := Blk.new d1 22 #[.int .u64 (x : Int), .int .u64 2]
      replace kl := kl.below hal kl.lt
      replace kz := kz.below hal kz.lt
      replace kc := kc.below hal kc.lt
      replace hgr := grows_below hgr hal
      replace hown := own_below hown hal (Nat.le_refl _)
      replace o1 := own_below o1 hal (Nat.le_refl _)
      replace hb0 := below_chain hb0 hal
      replace hNw := Nat.le_trans hNw hal.size
      clear cl hal
      generalize d1.alloc _ = a2 at kl kz kc hgr hown o1 hb0 hNw kA ⊢
      generalize d1.heap.size = gA2 at kA ⊢
      have HC := Lib.hid (HS.out [2] m2 gA2 a2 (by simpa [U64] using kA) (by intro y hy; simp at hy; omega) (by simp) u2)
      clear kA
      skip
      refine HC.out.mono ?_
      rintro e b2 ⟨v2, rfl, hv, hb⟩
      have o2 := own_base hv hNw
      replace kl := kl.below hb kl.lt
      replace kz := kz.below hb kz.lt
      replace kc := kc.below hb kc.lt
      replace hgr := grows_below hgr hb
      replace hown := own_below hown hb (Nat.le_refl _)
      replace o1 := own_below o1 hb (Nat.le_refl _)
      replace hb0 := below_chain hb0 hb
      replace hNw := Nat.le_trans hNw hb.size
      clear hv hb HC
      obtain ⟨A2, c2, rfl, -⟩ := own_form o2
      have cc := kc.cell
      have fc := kc.frozen
      go_upto_region 9 with fail
      have hsg : b2.grownBy (b2.setCell ⟨w.heap.size + 1 + 1, 2, none⟩ (.slice A2 m2 c2)) (some (w.heap.size + 1 + 1)) := grown_setCell' (p := ⟨w.heap.size + 1 + 1, 2, none⟩) (grown_refl' b2 _) (.inl rfl) _
      replace kc := kc.set_ 2 (.slice A2 m2 c2)
      simp at kc
      replace kl := kl.grown hsg (fun e => by have := Option.some.inj e; omega)
      replace kz := kz.grown hsg (fun e => by have := Option.some.inj e; omega)
      replace hgr := grows_only hgr hsg (by omega)
      replace hown := own_stay hown hsg (by omega)
      replace o1 := own_stay o1 hsg (by omega)
      replace o2 := own_stay o2 hsg (by omega)
      replace hb0 := hb0.trans (below_of_only hsg hb0.size (by omega))
      replace hNw := Nat.le_trans hNw hsg.size
      clear hsg cc fc
      generalize b2.setCell _ _ = d2 at kl kz kc hgr hown o1 o2 hb0 hNw ⊢
      have cl := kl.cell
      go_wp2_with fail
      have hal := (Below.refl d2.heap.size d2).alloc (Nat.le_refl _) (.cells #[.int .u64 (x : Int), .int .u64 3] 22)
      have kA := Blk.new d2 22 #[.int .u64 (x : Int), .int .u64 3]
      replace kl := kl.below hal kl.lt
      replace kz := kz.below hal kz.lt
      replace kc := kc.below hal kc.lt
      replace hgr := grows_below hgr hal
      replace hown := own_below hown hal (Nat.le_refl _)
      replace o1 := own_below o1 hal (Nat.le_refl _)
      replace o2 := own_below o2 hal (Nat.le_refl _)
      replace hb0 := below_chain hb0 hal
      replace hNw := Nat.le_trans hNw hal.size
      clear cl hal
      generalize d2.alloc _ = a3 at kl kz kc hgr hown o1 o2 hb0 hNw kA ⊢
      generalize d2.heap.size = gA3 at kA ⊢
      have HC := Lib.hid (HS.out [3] m3 gA3 a3 (by simpa [U64] using kA) (by intro y hy; simp at hy; omega) (by simp) u3)
      clear kA
      skip
      refine HC.out.mono ?_
      rintro e b3 ⟨v3, rfl, hv, hb⟩
      have o3 := own_base hv hNw
      replace kl := kl.below hb kl.lt
      replace kz := kz.below hb kz.lt
      replace kc := kc.below hb kc.lt
      replace hgr := grows_below hgr hb
      replace hown := own_below hown hb (Nat.le_refl _)
      replace o1 := own_below o1 hb (Nat.le_refl _)
      replace o2 := own_below o2 hb (Nat.le_refl _)
      replace hb0 := below_chain hb0 hb
      replace hNw := Nat.le_trans hNw hb.size
      clear hv hb HC
      obtain ⟨A3, c3, rfl, -⟩ := own_form o3
      have cc := kc.cell
      have fc := kc.frozen
      go_upto_region 10 with fail
      have hsg : b3.grownBy (b3.setCell ⟨w.heap.size + 1 + 1, 3, none⟩ (.slice A3 m3 c3)) (some (w.heap.size + 1 + 1)) := grown_setCell' (p := ⟨w.heap.size + 1 + 1, 3, none⟩) (grown_refl' b3 _) (.inl rfl) _
      replace kc := kc.set_ 3 (.slice A3 m3 c3)
      simp at kc
      replace kl := kl.grown hsg (fun e => by have := Option.some.inj e; omega)
      replace kz := kz.grown hsg (fun e => by have := Option.some.inj e; omega)
      replace hgr := grows_only hgr hsg (by omega)
      replace hown := own_stay hown hsg (by omega)
      replace o1 := own_stay o1 hsg (by omega)
      replace o2 := own_stay o2 hsg (by omega)
      replace o3 := own_stay o3 hsg (by omega)
      replace hb0 := hb0.trans (below_of_only hsg hb0.size (by omega))
      replace hNw := Nat.le_trans hNw hsg.size
      clear hsg cc fc
      generalize b3.setCell _ _ = d3 at kl kz kc hgr hown o1 o2 o3 hb0 hNw ⊢
      have cl := kl.cell
      go_wp2_with fail
      have hal := (Below.refl d3.heap.size d3).alloc (Nat.le_refl _) (.cells #[.int .u64 (x : Int), .int .u64 4] 22)
      have kA := Blk.new d3 22 #[.int .u64 (x : Int), .int .u64 4]
      replace kl := kl.below hal kl.lt
      replace kz := kz.below hal kz.lt
      replace kc := kc.below hal kc.lt
      replace hgr := grows_below hgr hal
      replace hown := own_below hown hal (Nat.le_refl _)
      replace o1 := own_below o1 hal (Nat.le_refl _)
      replace o2 := own_below o2 hal (Nat.le_refl _)
      replace o3 := own_below o3 hal (Nat.le_refl _)
      replace hb0 := below_chain hb0 hal
      replace hNw := Nat.le_trans hNw hal.size
      clear cl hal
      generalize d3.alloc _ = a4 at kl kz kc hgr hown o1 o2 o3 hb0 hNw kA ⊢
      generalize d3.heap.size = gA4 at kA ⊢
      have HC := Lib.hid (HS4.out [4] L.n gA4 a4 (by simpa [U64] using kA) (by intro y hy; simp at hy; omega) (by simp) u4)
      clear kA
      unfold bigQ at HC
      refine HC.out.mono ?_
      rintro e b4 ⟨v4, rfl, hv, hb⟩
      have o4 := own_base hv hNw
      replace kl := kl.below hb kl.lt
      replace kz := kz.below hb kz.lt
      replace kc := kc.below hb kc.lt
      replace hgr := grows_below hgr hb
      replace hown := own_below hown hb (Nat.le_refl _)
      replace o1 := own_below o1 hb (Nat.le_refl _)
      replace o2 := own_below o2 hb (Nat.le_refl _)
      replace o3 := own_below o3 hb (Nat.le_refl _)
      replace hb0 := below_chain hb0 hb
      replace hNw := Nat.le_trans hNw hb.size
      clear hv hb HC
      obtain ⟨A4, c4, rfl, -⟩ := own_form o4
      have cc := kc.cell
      have fc := kc.frozen
      go_upto_region 11 with fail
      have hsg : b4.grownBy (b4.setCell ⟨w.heap.size + 1 + 1, 4, none⟩ (.slice A4 L.n c4)) (some (w.heap.size + 1 + 1)) := grown_setCell' (p := ⟨w.heap.size + 1 + 1, 4, none⟩) (grown_refl' b4 _) (.inl rfl) _
      replace kc := kc.set_ 4 (.slice A4 L.n c4)
      simp at kc
      replace kl := kl.grown hsg (fun e => by have := Option.some.inj e; omega)
      replace kz := kz.grown hsg (fun e => by have := Option.some.inj e; omega)
      replace hgr := grows_only hgr hsg (by omega)
      replace hown := own_stay hown hsg (by omega)
      replace o1 := own_stay o1 hsg (by omega)
      replace o2 := own_stay o2 hsg (by omega)
      replace o3 := own_stay o3 hsg (by omega)
      replace o4 := own_stay o4 hsg (by omega)
      replace hb0 := hb0.trans (below_of_only hsg hb0.size (by omega))
      replace hNw := Nat.le_trans hNw hsg.size
      clear hsg cc fc
      generalize b4.setCell _ _ = d4 at kl kz kc hgr hown o1 o2 o3 o4 hb0 hNw ⊢
      obtain ⟨Av, cv, rfl, -⟩ := own_form hown
      have cc := kc.cell
      have fc := kc.frozen
      have zc := kz.cell
      have zf := kz.frozen
      go_wp2_with fail
      have hsg := set5_grown (w := d4) (g := w.heap.size + 1) (.slice Av i cv) (.slice A1 L.k c1) (.slice A2 m2 c2) (.slice A3 m3 c3) (.slice A4 L.n c4)
      replace kz := set5_blk kz (.slice Av i cv) (.slice A1 L.k c1) (.slice A2 m2 c2) (.slice A3 m3 c3) (.slice A4 L.n c4)
      replace hgr := grows_only hgr hsg (by omega)
      replace hown := own_stay hown hsg (by omega)
      replace o1 := own_stay o1 hsg (by omega)
      replace o2 := own_stay o2 hsg (by omega)
      replace o3 := own_stay o3 hsg (by omega)
      replace o4 := own_stay o4 hsg (by omega)
      replace hb0 := hb0.trans (below_of_only hsg hb0.size (by omega))
      clear kl kc cc fc zc zf hsg hNw
      generalize ((((d4.setCell _ _).setCell _ _).setCell _ _).setCell _ _).setCell _ _ = d5 at kz hgr hown o1 o2 o3 o4 hb0 ⊢
      have zc := kz.cell
      refine bodyPost_ret (v := .agg #[.slice Av i cv, .slice A1 L.k c1, .slice A2 m2 c2, .slice A3 m3 c3, .slice A4 L.n c4]) (by simp [results, Tryz.results39, go_sem, zc]) rfl ?_
      obtain rfl := HM2.out
      obtain rfl := HM3.out
      have hp0 : 0 < L.p := by omega
      exact ⟨_, _, _, _, _, _, _, rfl, own_base hown (by omega), grows_mono hgr (by omega), own_base o1 (by omega), own_base o2 (by omega), own_base o3 (by omega), own_base o4 (by omega), hb0⟩
theorem rowsP_len (L : LayR) (s n : Nat) : (rowsP L s n).length = n := by simp [rowsP]
theorem rowsP_row {L : LayR} {s n i : Nat} (h : i < (rowsP L s n).length) : ((rowsP L s n)[i]).length = L.queries := by simp [rowsP, vecP]
end Go.Proofs.YtakjnmojigechaaGreat
