/-
  The document's transform: ref04.Interpolate.
-/
import Derived.Test.YtefnagiffllhbaaGreatJQ26
import Derived.Laws.OwnMore
import Derived.Deep.AppendLies

/- PoC -/
namespace Go.Proofs.YtefnagiffllhbaaGreat
open Go.RowKit

set_option maxRecDepth 100000 in
set_option maxHeartbeats 1000000 in
theorem rScale_any (p : Nat) (A : Option Addr) (n c s : Nat) (l : List Nat) (w : World) (hp : okP p = true) (hl : RWd w [.slice A n c] l) (hn : n ≤ 100000) :
    Calls Tryz.prog 92 #[.int .u64 p, .slice A n c, .int .u64 (s : Int)] w fun e w' => ∃ v, e = .returned v ∧ RWd w' [v] (scaleP p l s) ∧ Below w.heap.size w w' := by
  obtain ⟨rfl, h1, h2, hlt, hrd⟩ := lw_at hl
  obtain ⟨hp1, hp2⟩ := okP_lt hp
  have HA := Lib.hid (fun a w => rMul_any p a s w hp)
  have HM := Lib.hid (show ∀ x ∈ l.map (fun y => y * s % p), x < 18446744073709551616 from fun x hx => by obtain ⟨y, -, rfl⟩ := List.mem_map.1 hx; exact Nat.lt_trans (Nat.mod_lt _ (by omega)) hp2)
  have HS := Lib.hid (fun A n c l w hl hn => rTrim_any p A n c l w hp hl hn)
  have HT := Lib.hid (show scaleP p l s = trimP p (l.map (fun y => y * s % p)) from rfl)
  rw [HT.out]
  clear hl h1 h2 hp hlt hp1 hp2
  obtain ⟨f, hf⟩ : ∃ f, f = fun y => y * s % p := ⟨_, rfl⟩
  have HF0 := Lib.hid (fun y => show f y = y * s % p by rw [hf])
  rw [← hf] at HM ⊢
  obtain ⟨L, hL⟩ : ∃ L, L = l.map f := ⟨_, rfl⟩
  have HLN := Lib.hid (show L.length = l.length by rw [hL]; simp)
  have HLG := Lib.hid (show ∀ k, L.getD k 0 = l.getD k 0 * s % p from fun k => by rw [hL, ← HF0.out]; exact map_get0 f (by rw [HF0.out]; simp) l k)
  rw [← hL] at HM ⊢
  clear hf HT hL HF0
  go_enter Tryz.func92, Tryz.ntmps92
  go_wp2_with fail
  go_loopw [7, 8] (fun v i wr => ∃ k : Nat, k ≤ l.length ∧ i = .int .i64 (k : Int) ∧ wr.ownsRow w.heap.size 22 1 v k (U64 (L.take k)) ∧ Below w.heap.size w wr) (fun _ i _ => l.length - (intOf i).toNat)
  case atStart => exact ⟨0, Nat.zero_le _, rfl, ⟨rfl, .inl ⟨rfl, rfl⟩⟩, Below.refl _ _⟩
  case round =>
    obtain ⟨k, hk, rfl, hown, hb⟩ := hrel
    by_cases hlt : k < l.length
    · obtain ⟨b, q, rfl, hbl, hc⟩ := lw_get (hrd.below hb) hlt
      have HF := Lib.hid (lw_snoc L k (by rw [HLN.out]; exact hlt)).symm
      have HG := Lib.hid (HLG.out k)
      obtain ⟨x, hx⟩ : ∃ x, x = l.getD k 0 := ⟨_, rfl⟩
      obtain ⟨z, hz⟩ : ∃ z, z = L.getD k 0 := ⟨_, rfl⟩
      rw [← hx] at hc HG
      rw [← hz] at HF HG
      have HA1 := Lib.hid (fun w => by have := HA.out x w; rw [← HG.out] at this; exact this)
      clear hx hz HG
      go_wp2_with fail
      refine (HA1.out _).mono ?_
      rintro e w2 ⟨rfl, hbx⟩
      replace hb := below_chain hb hbx
      replace hown := own_below hown hbx (Nat.le_refl _)
      clear hbx
      go_wp2_with (at_builtin; refine wpl_append rfl _ _ rfl el_w rfl (hown.alloc _) rfl (rd_one _ _ _) (one_U64 [z]) (by omega) (by simp; have := hb.size; omega) ?_)
      intro v' wn hown' hgrow hblk
      have hal := (Below.refl w2.heap.size w2).alloc (Nat.le_refl _) (.cells #[.int .u64 (z : Int)] 22)
      have hB := lw_grow (hown.alloc _) hgrow (by simp; have := hb.size; omega)
      replace hb := (below_on hb hal hb.size).trans hB
      replace hown : wn.ownsRow w.heap.size 22 1 v' (k + 1) (U64 (L.take (k + 1))) := lw_app (b := [z]) hown' HF.out
      clear hown' hgrow hblk hal hB
      go_wp2
      go_roundw
      case rel => exact ⟨k + 1, by omega, by go_num, hown, hb⟩
      case measure => simp [intOf]; omega
    · obtain rfl : k = l.length := by omega
      rw [List.take_of_length_le (by have := HLN.out; omega)] at hown
      obtain ⟨A1, c1, rfl, -, -, -, -⟩ := own_form hown
      have hlw := lw_own hown HM.out
      clear hown hrd
      go_wp2_with fail
      refine (HS.out _ _ _ _ _ hlw hn).mono ?_
      rintro e w5 ⟨v, rfl, hv, hbx⟩
      go_wp2
      go_ret
      exact ⟨_, rfl, hv, below_chain hb hbx⟩

theorem fill_zero (n : Nat) : (fillC n fun _ => 0).toList = U64 (List.replicate n 0) := by
  simp [fillC, U64]
  exact (List.map_const' ..).trans (by rw [List.length_range])

set_option maxRecDepth 100000 in
set_option maxHeartbeats 1000000 in
theorem rShift_any (A : Option Addr) (n c m : Nat) (l : List Nat) (w : World) (hl : RWd w [.slice A n c] l) (hn : n ≤ 100000) (hm : m ≤ 100000) :
    Calls Tryz.prog 91 #[.slice A n c, .int .i64 (m : Int)] w fun e w' => ∃ v, e = .returned v ∧ w'.ownsRow w.heap.size 22 1 v (m + n) (U64 (shiftP l m)) ∧ Below w.heap.size w w' := by
  obtain ⟨rfl, h1, h2, hlt, hrd⟩ := lw_at hl
  have mk := mk_words m (by omega)
  have g0 : (0 : Int) ≤ (m : Int) := by omega
  have g1 : (m : Int) ≤ 100000 := by omega
  have own0 : (w.alloc (.cells (fillC m fun _ => 0) 22)).ownsRow w.heap.size 22 1 (.slice (some ⟨w.heap.size, 0, none⟩) m m) m (U64 (List.replicate m 0)) := by
    have := World.ownsRow_lit (base := w.heap.size) (e := 22) (size := 1) w (fillC m fun _ => 0) m (Nat.le_refl _) (by simp [maxLen]; omega) (by simp [fillC])
    rw [fill_zero] at this
    exact this
  have hal := (Below.refl w.heap.size w).alloc (Nat.le_refl _) (.cells (fillC m fun _ => 0) 22)
  have HL := Lib.hid (show List.replicate m 0 ++ l = shiftP l m from rfl)
  have hrd1 := hrd.below hal
  clear hl h2 hlt hrd
  go_enter Tryz.func91, Tryz.ntmps91
  go_wp2_with (at_builtin; refine wpl_append rfl _ _ rfl el_w rfl own0 rfl hrd1 (one_U64 l) (by omega) (by simp) ?_)
  intro v' w2 hown hgrow hblk
  have hB := lw_grow own0 hgrow (by simp)
  replace hown := lw_app hown HL.out
  go_wp2
  go_ret
  exact ⟨_, rfl, hown, hal.trans hB⟩

theorem shiftP_lt {l : List Nat} {B : Nat} (hB : 0 < B) (hl : ∀ x ∈ l, x < B) (m : Nat) : ∀ x ∈ shiftP l m, x < B := fun x hx => by
  rcases List.mem_append.1 hx with h | h
  · rw [(List.mem_replicate.1 h).2]; exact hB
  · exact hl x h
theorem rwd_lt {w : World} {v : Value} {l : List Nat} (h : RWd w [v] l) : ∀ x ∈ l, x < 18446744073709551616 := by
  obtain ⟨A, n, c, -, -, -, -, h4⟩ := h
  exact h4
theorem rwd_form {w : World} {v : Value} {l : List Nat} (h : RWd w [v] l) : ∃ A c, v = .slice A l.length c := by
  obtain ⟨A, n, c, he, -, -, h3, -⟩ := id h
  simp at he
  subst he
  have := h3.len1
  rw [len_U64] at this
  subst this
  exact ⟨A, c, rfl⟩

set_option maxRecDepth 100000 in
set_option maxHeartbeats 2000000 in
theorem rMulP_any (p : Nat) (A B : Option Addr) (n c m d : Nat) (a b : List Nat) (w : World) (hp : okP p = true) (ha : RWd w [.slice A n c] a) (hb' : RWd w [.slice B m d] b) (hn : n ≤ 40000) (hm : m ≤ 40000) :
    Calls Tryz.prog 43 #[.int .u64 p, .slice A n c, .slice B m d] w fun e w' => ∃ v, e = .returned v ∧ RWd w' [v] (mulP p a b) ∧ Below w.heap.size w w' := by
  obtain ⟨rfl, -, -, -, hrd⟩ := lw_at ha
  obtain ⟨rfl, -, -, -, -⟩ := lw_at hb'
  have HA := Lib.hid (fun A B n c m d a b w ha hb hn hm => rAddP_any p A B n c m d a b w hp ha hb hn hm)
  have HS := Lib.hid (fun s w' (hb : Below w.heap.size w w') => rScale_any p B b.length d s b w' hp (kept_RWd _ _ _ _ hb hb') (by omega))
  have HK := Lib.hid (fun k => show mulK p a b (k + 1) = addP p (mulK p a b k) (shiftP (scaleP p b (a.getD k 0)) k) from rfl)
  have HL := Lib.hid (fun k (hk : k < a.length) => show (mulK p a b k).length ≤ 100000 by cases k with
    | zero => exact Nat.zero_le _
    | succ k => have := mulK_len p a b k; omega)
  have HC := Lib.hid (fun s => show (scaleP p b s).length ≤ 40000 by have := scaleP_len p b s; omega)
  have HE := Lib.hid (show mulP p a b = mulK p a b a.length from rfl)
  rw [HE.out]
  obtain ⟨f, hf⟩ : ∃ f, f = mulK p a b := ⟨_, rfl⟩
  have H0 := Lib.hid (show f 0 = [] by rw [hf]; rfl)
  obtain ⟨g, hg⟩ : ∃ g, g = scaleP p b := ⟨_, rfl⟩
  rw [← hf] at HK HL ⊢
  rw [← hg] at HK HC HS
  clear ha hb' hp HE hf hg
  go_enter Tryz.func43, Tryz.ntmps43
  go_wp2_with fail
  go_loopw [7, 8] (fun v i wr => ∃ k : Nat, k ≤ a.length ∧ i = .int .i64 (k : Int) ∧ RWd wr [v] (f k) ∧ Below w.heap.size w wr) (fun _ i _ => a.length - (intOf i).toNat)
  case atStart => exact ⟨0, Nat.zero_le _, rfl, by rw [H0.out]; exact ⟨none, 0, 0, rfl, Nat.le_refl _, by simp [maxLen], ⟨rfl, fun h => absurd h (by omega)⟩, fun x hx => by cases hx⟩, Below.refl _ _⟩
  case round =>
    obtain ⟨k, hk, rfl, hv, hb⟩ := hrel
    obtain ⟨A1, c1, rfl⟩ := rwd_form hv
    by_cases hlt : k < a.length
    · obtain ⟨b1, q, rfl, hbl, hc⟩ := lw_get (hrd.below hb) hlt
      have HK1 := Lib.hid (HK.out k)
      have HL1 := Lib.hid (HL.out k hlt)
      generalize a.getD k 0 = x at *
      have HS1 := Lib.hid (fun w => HS.out x w)
      have HC1 := Lib.hid (HC.out x)
      generalize g x = s at *
      obtain ⟨f0, hf0⟩ : ∃ f0, f0 = f k := ⟨_, rfl⟩
      rw [← hf0] at hv HK1 HL1 ⊢
      clear hf0
      go_wp2_with fail
      refine (HS1.out _ hb).mono ?_
      rintro e w2 ⟨v2, rfl, h2, hbx⟩
      replace hb := below_chain hb hbx
      replace hv := kept_RWd _ _ _ _ hbx hv
      clear hbx
      obtain ⟨A2, c2, rfl⟩ := rwd_form h2
      have hsl := HC1.out
      have hlt2 := rwd_lt h2
      go_wp2_with fail
      refine (rShift_any A2 s.length c2 k s _ h2 (by omega) (by omega)).mono ?_
      rintro e w3 ⟨v3, rfl, h3, hbx⟩
      replace hb := below_chain hb hbx
      replace hv := kept_RWd _ _ _ _ hbx hv
      clear hbx h2
      obtain ⟨A3, c3, rfl, -⟩ := own_form h3
      have hw3 := lw_own h3 (shiftP_lt (by omega) hlt2 k)
      go_wp2_with fail
      refine (HA.out _ _ _ _ _ _ _ _ _ hv hw3 HL1.out (by omega)).mono ?_
      rintro e w4 ⟨v4, rfl, h4, hbx⟩
      replace hb := below_chain hb hbx
      rw [← HK1.out] at h4
      go_wp2
      go_roundw
      case rel => exact ⟨k + 1, by omega, by go_num, h4, hb⟩
      case measure => simp [intOf]; omega
    · obtain rfl : k = a.length := by omega
      go_wp2
      go_ret
      exact ⟨_, rfl, hv, hb⟩

set_option maxRecDepth 100000 in
set_option maxHeartbeats 1000000 in
theorem rEval_any (p : Nat) (A : Option Addr) (n c x : Nat) (l : List Nat) (w : World) (hp : okP p = true) (hl : RWd w [.slice A n c] l) :
    Calls Tryz.prog 17 #[.int .u64 p, .slice A n c, .int .u64 (x : Int)] w fun e w' => e = .returned (.int .u64 ((evalP p l x : Nat) : Int)) ∧ Below w.heap.size w w' := by
  obtain ⟨rfl, h1, h2, hlt, hrd⟩ := lw_at hl
  have gm := lw_max h1 h2
  have HM := Lib.hid (fun a b w => rMul_any p a b w hp)
  have HA := Lib.hid (fun a b w => rAdd_any p a b w hp)
  have HE := Lib.hid (show evalP p l x = evS p l (powR p x) l.length from rfl)
  rw [HE.out]
  obtain ⟨f, hf⟩ : ∃ f, f = evS p l (powR p x) := ⟨_, rfl⟩
  obtain ⟨g, hg⟩ : ∃ g, g = powR p x := ⟨_, rfl⟩
  have HF0 := Lib.hid (show f 0 = 0 by rw [hf]; rfl)
  have HF := Lib.hid (fun k => show f (k + 1) = (f k + l.getD k 0 * g k % p) % p by rw [hf, hg]; rfl)
  have HG0 := Lib.hid (show g 0 = 1 by rw [hg]; rfl)
  have HG := Lib.hid (fun k => show g (k + 1) = g k * x % p by rw [hg]; rfl)
  rw [← hf]
  clear hf hg HE hl h1 h2 hp hlt
  go_enter Tryz.func17, Tryz.ntmps17
  go_wp2_with fail
  go_loopw [7, 8, 9] (fun y z i wr => ∃ k : Nat, k ≤ l.length ∧ i = .int .i64 (k : Int) ∧ y = .int .u64 (f k : Int) ∧ z = .int .u64 (g k : Int) ∧ Below w.heap.size w wr) (fun _ _ i _ => l.length - (intOf i).toNat)
  case atStart => exact ⟨0, Nat.zero_le _, rfl, by rw [HF0.out]; rfl, by rw [HG0.out]; rfl, Below.refl _ _⟩
  case round =>
    obtain ⟨k, hk, rfl, rfl, rfl, hb⟩ := hrel
    by_cases hlt : k < l.length
    · obtain ⟨b, q, rfl, hbl, hc⟩ := lw_get (hrd.below hb) hlt
      have HF1 := Lib.hid (HF.out k)
      have HG1 := Lib.hid (HG.out k)
      generalize l.getD k 0 = y at *
      obtain ⟨z, hz⟩ : ∃ z, z = y * g k % p := ⟨_, rfl⟩
      rw [← hz] at HF1
      have HM1 := Lib.hid (fun w => by have := HM.out y (g k) w; rw [← hz] at this; exact this)
      have HM2 := Lib.hid (fun w => by have := HM.out (g k) x w; rw [← HG1.out] at this; exact this)
      have HA1 := Lib.hid (fun w => by have := HA.out (f k) z w; rw [← HF1.out] at this; exact this)
      obtain ⟨f1, hf1⟩ : ∃ f1, f1 = f (k + 1) := ⟨_, rfl⟩
      obtain ⟨g1, hg1⟩ : ∃ g1, g1 = g (k + 1) := ⟨_, rfl⟩
      rw [← hf1] at HA1
      rw [← hg1] at HM2
      have HH := Lib.hid (And.intro hf1 hg1)
      clear hz HF1 HG1 hf1 hg1
      generalize f k = fk at *
      generalize g k = gk at *
      go_wp2_with fail
      refine (HM1.out _).mono ?_
      rintro e w2 ⟨rfl, hbx⟩
      replace hb := below_chain hb hbx
      clear hbx
      go_wp2_with fail
      refine (HA1.out _).mono ?_
      rintro e w3 ⟨rfl, hbx⟩
      replace hb := below_chain hb hbx
      clear hbx
      go_wp2_with fail
      refine (HM2.out _).mono ?_
      rintro e w4 ⟨rfl, hbx⟩
      replace hb := below_chain hb hbx
      clear hbx
      go_wp2
      go_roundw
      case rel => exact ⟨k + 1, by omega, by go_num, by rw [← HH.out.1], by rw [← HH.out.2], hb⟩
      case measure => simp [intOf]; omega
    · obtain rfl : k = l.length := by omega
      go_wp2
      go_ret
      exact ⟨rfl, hb⟩
end Go.Proofs.YtefnagiffllhbaaGreat

/- PoD -/
namespace Go.Proofs.YtefnagiffllhbaaGreat
open Go.RowKit

/-- a times the powers of b. -/
def geoR (p a b : Nat) : Nat → Nat
  | 0 => a
  | k + 1 => geoR p a b k * b % p
theorem geoR_lt {p a b : Nat} (hp : 0 < p) (ha : a < p) : ∀ k, geoR p a b k < p
  | 0 => ha
  | _ + 1 => Nat.mod_lt _ hp
/-- ref04.Domain's points. -/
def domR (p s n : Nat) : Nat → Nat := geoR p (s % p) (rootP p n)
/-- ref04.Eval. -/
def hornP (p x : Nat) : List Nat → Nat
  | [] => 0
  | c :: l => (hornP p x l * x % p + c) % p
theorem hornP_lt {p : Nat} (hp : 0 < p) (x : Nat) : ∀ l, hornP p x l < p
  | [] => hp
  | _ :: _ => Nat.mod_lt _ hp
theorem hornP_drop (p x : Nat) (l : List Nat) (k : Nat) (h : k < l.length) : hornP p x (l.drop k) = (hornP p x (l.drop (k + 1)) * x % p + l.getD k 0) % p := by
  rw [List.drop_eq_getElem_cons h, hornP, List.getD_eq_getElem?_getD, List.getElem?_eq_getElem h]
  rfl

set_option maxRecDepth 100000 in
set_option maxHeartbeats 1000000 in
theorem rLength_any (p n : Nat) (w : World) (hp : okP p = true) (hn : LenOk p n) :
    Calls Tryz.prog 93 #[.int .u64 p, .int .i64 (n : Int)] w fun e w' => e = .returned (.bool true) ∧ Below w.heap.size w w' := by
  have HR := Lib.hid (fun w => rRoot_any p n w hp hn)
  have g1 : (n : Int) ≤ 4096 := by have := hn.le; omega
  clear hp hn
  go_enter Tryz.func93, Tryz.ntmps93
  go_wp2_with fail
  refine (HR.out _).mono ?_
  rintro e w1 ⟨rfl, hb⟩
  go_wp2
  go_ret
  exact ⟨rfl, hb⟩

set_option maxRecDepth 100000 in
set_option maxHeartbeats 1000000 in
theorem rDomain_any (p s n : Nat) (w : World) (hp : okP p = true) (hn : LenOk p n) (hs : s % p ≠ 0) :
    Calls Tryz.prog 45 #[.int .u64 p, .int .u64 (s : Int), .int .i64 (n : Int)] w fun e w' => ∃ v, e = .returned (.tuple #[v, .int .i64 0]) ∧ w'.ownsRow w.heap.size 22 1 v n (U64 ((List.range n).map (domR p s n))) ∧ Below w.heap.size w w' := by
  obtain ⟨hp1, hp2⟩ := okP_lt hp
  have hn4 := hn.le
  have HO := Lib.hid (fun w => by have := rValidP_any p w hp2; rw [hp] at this; exact this)
  have HR := Lib.hid (fun w => rRoot_any p n w hp hn)
  have HL := Lib.hid (fun w => rLength_any p n w hp hn)
  have HM := Lib.hid (fun a b w => rMul_any p a b w hp)
  obtain ⟨r, hr⟩ : ∃ r, r = rootP p n := ⟨_, rfl⟩
  obtain ⟨x0, hx0⟩ : ∃ x0, x0 = s % p := ⟨_, rfl⟩
  obtain ⟨f, hf⟩ : ∃ f, f = domR p s n := ⟨_, rfl⟩
  have HF0 := Lib.hid (show f 0 = x0 by rw [hf, hx0]; rfl)
  have HF := Lib.hid (fun k => show f (k + 1) = f k * r % p by rw [hf, hr]; rfl)
  have p1 : (0 : Int) < (p : Int) := by omega
  have p2 : ((p : Int) == 0) = false := by rw [beq_eq_false_iff_ne]; omega
  have p3 : ¬ (p = 0) := by omega
  have e1 : (s : Int) % (p : Int) = (x0 : Int) := by rw [hx0]; rfl
  have e2 : (s : Int).tmod (p : Int) = (x0 : Int) := by rw [hx0]; rfl
  have e3 : ((x0 : Int) == 0) = false := by rw [beq_eq_false_iff_ne]; omega
  have HS := Lib.hid (fun k => range_snoc f k)
  rw [← hr] at HR
  rw [← hf]
  clear hr hf hx0 hs hn hp hp1 hp2
  go_enter Tryz.func45, Tryz.ntmps45
  go_wp2_with fail
  refine (HO.out _).mono ?_
  rintro e w1 ⟨rfl, hb⟩
  go_wp2_with fail
  refine (HL.out _).mono ?_
  rintro e w2 ⟨rfl, hbx⟩
  replace hb := below_chain hb hbx
  clear hbx
  go_wp2_with fail
  refine (HR.out _).mono ?_
  rintro e w3 ⟨rfl, hbx⟩
  replace hb := below_chain hb hbx
  clear hbx
  go_wp2_with fail
  go_loopw [10, 11, 12] (fun y v i wr => ∃ k : Nat, k ≤ n ∧ i = .int .i64 (k : Int) ∧ y = .int .u64 (f k : Int) ∧ wr.ownsRow w.heap.size 22 1 v k (U64 ((List.range k).map f)) ∧ Below w.heap.size w wr) (fun _ _ i _ => n - (intOf i).toNat)
  case atStart => exact ⟨0, Nat.zero_le _, rfl, by rw [HF0.out], ⟨rfl, .inl ⟨rfl, rfl⟩⟩, hb⟩
  case round =>
    clear hb
    obtain ⟨k, hk, rfl, rfl, hown, hb⟩ := hrel
    by_cases hlt : k < n
    · have g1 : (k : Int) < (n : Int) := by omega
      have HS1 := Lib.hid (HS.out k)
      have HF1 := Lib.hid (HF.out k)
      obtain ⟨y, hy⟩ : ∃ y, y = f (k + 1) := ⟨_, rfl⟩
      have HY := Lib.hid hy
      obtain ⟨z, hz⟩ : ∃ z, z = f k := ⟨_, rfl⟩
      rw [← hy, ← hz] at HF1
      rw [← hz] at HS1 ⊢
      have HM1 := Lib.hid (fun w => by have := HM.out z r w; rw [← HF1.out] at this; exact this)
      clear hy hz HF1
      go_wp2_with (at_builtin; refine wpl_append rfl _ _ rfl el_w rfl (hown.alloc _) rfl (rd_one _ _ _) (one_U64 [z]) (by omega) (by simp; have := hb.size; omega) ?_)
      intro v' wn hown' hgrow hblk
      have hal := (Below.refl wr.heap.size wr).alloc (Nat.le_refl _) (.cells #[.int .u64 (z : Int)] 22)
      have hB := lw_grow (hown.alloc _) hgrow (by simp; have := hb.size; omega)
      replace hb := (below_on hb hal hb.size).trans hB
      replace hown : wn.ownsRow w.heap.size 22 1 v' (k + 1) (U64 ((List.range (k + 1)).map f)) := lw_app (b := [z]) hown' HS1.out
      clear hown' hgrow hblk hal hB
      go_wp2_with fail
      refine (HM1.out _).mono ?_
      rintro e w4 ⟨rfl, hbx⟩
      replace hb := below_chain hb hbx
      replace hown := own_below hown hbx (Nat.le_refl _)
      clear hbx
      go_wp2
      go_roundw
      case rel => exact ⟨k + 1, by omega, by go_num, by rw [HY.out], hown, hb⟩
      case measure => simp [intOf]; omega
    · obtain rfl : k = n := by omega
      have g1 : ¬ ((k : Int) < (k : Int)) := by omega
      go_wp2
      go_ret2
      exact ⟨_, rfl, hown, hb⟩

set_option maxRecDepth 100000 in
set_option maxHeartbeats 1000000 in
theorem rHorn_any (p : Nat) (A : Option Addr) (n c x : Nat) (l : List Nat) (w : World) (hp : okP p = true) (hl : RWd w [.slice A n c] l) :
    Calls Tryz.prog 123 #[.int .u64 p, .slice A n c, .int .u64 (x : Int)] w fun e w' => e = .returned (.int .u64 ((hornP p x l : Nat) : Int)) ∧ Below w.heap.size w w' := by
  obtain ⟨rfl, h1, h2, hlt, hrd⟩ := lw_at hl
  have gm := lw_max h1 h2
  have HM := Lib.hid (fun a b w => rMul_any p a b w hp)
  have HA := Lib.hid (fun a b w => rAdd_any p a b w hp)
  have HD := Lib.hid (hornP_drop p x l)
  obtain ⟨f, hf⟩ : ∃ f, f = fun k => hornP p x (l.drop k) := ⟨_, rfl⟩
  have HF0 := Lib.hid (show f 0 = hornP p x l by rw [hf]; rfl)
  have HF9 := Lib.hid (show f l.length = 0 by rw [hf]; simp [hornP])
  have HF := Lib.hid (fun k (hk : k < l.length) => show f k = (f (k + 1) * x % p + l.getD k 0) % p by rw [hf]; exact HD.out k hk)
  rw [← HF0.out]
  clear HD hl h1 h2 hp hlt hf HF0
  obtain ⟨m, hm⟩ : ∃ m : Int, m = (l.length : Int) - 1 := ⟨_, rfl⟩
  have g0 : (l.length : Int) - 1 = m := hm.symm
  have gw : IntKind.i64.wrap m = m := wr_i64 _ (by omega) (by omega)
  have HMM := Lib.hid hm
  clear hm
  go_enter Tryz.func123, Tryz.ntmps123
  go_wp2_with fail
  clear g0 gw
  go_loopw [7, 8] (fun y i wr => ∃ (k : Nat) (j : Int), Hid (j + 1 = (k : Int)) ∧ k ≤ l.length ∧ i = .int .i64 j ∧ y = .int .u64 (f k : Int) ∧ Below w.heap.size w wr) (fun _ i _ => (intOf i + 1).toNat)
  case atStart => exact ⟨l.length, m, Lib.hid (by have := HMM.out; omega), Nat.le_refl _, rfl, by rw [HF9.out]; rfl, Below.refl _ _⟩
  case round =>
    obtain ⟨k, j, HJ, hk, rfl, rfl, hb⟩ := hrel
    rcases Nat.eq_zero_or_pos k with h0 | h0
    · subst h0
      have hj : j = -1 := by have := HJ.out; omega
      subst hj
      go_wp2
      go_ret
      exact ⟨rfl, hb⟩
    · obtain ⟨i, hi⟩ : ∃ i, i = k - 1 := ⟨_, rfl⟩
      have hj : j = (i : Int) := by have := HJ.out; omega
      subst hj
      have hil : i < l.length := by omega
      obtain ⟨b, q, rfl, hbl, hc⟩ := lw_get (hrd.below hb) hil
      have HF1 := Lib.hid (HF.out i hil)
      rw [show i + 1 = k by omega] at HF1
      obtain ⟨y, hy⟩ : ∃ y, y = f k := ⟨_, rfl⟩
      rw [← hy] at HF1 ⊢
      generalize l.getD i 0 = a at *
      obtain ⟨z, hz⟩ : ∃ z, z = y * x % p := ⟨_, rfl⟩
      have HM1 := Lib.hid (fun w => by have := HM.out y x w; rw [← hz] at this; exact this)
      rw [← hz] at HF1
      have HA1 := Lib.hid (fun w => by have := HA.out z a w; rw [← HF1.out] at this; exact this)
      have HI := Lib.hid hi
      obtain ⟨y2, hy2⟩ : ∃ y2, y2 = f i := ⟨_, rfl⟩
      rw [← hy2] at HA1
      have HY2 := Lib.hid hy2
      have gi1 : (0 : Int) ≤ (i : Int) := by omega
      have gi2 : (i : Int) < (l.length : Int) := by omega
      obtain ⟨j2, hj2⟩ : ∃ j2 : Int, j2 = (i : Int) - 1 := ⟨_, rfl⟩
      have gj : (i : Int) - 1 = j2 := hj2.symm
      have gw : IntKind.i64.wrap j2 = j2 := wr_i64 _ (by omega) (by omega)
      have HJ2 := Lib.hid hj2
      clear hz hy hi HF1 hy2 hj2
      go_upto_region 5 with fail
      refine wpGO_begin (Later) (later_moves) [] [] [0, 1, 2, 3, 4, 5, 6, 7, 8, 9, 10] (by kernel_rfl) (by kernel_rfl) ?_
      refine wpGO_start (later_moves) ?_
      intro Wc hacc
      repeat (first | (refine wpGO_skip (later_moves) rfl rfl rfl rfl (fun _ _ _ h => h) ?_ ; simp only [Act.put, List.setIfInBounds_toArray, List.set_cons_zero, List.set_cons_succ]) | (refine wpGO_light (v := ?_) (later_moves) rfl rfl rfl rfl (fun _ _ _ h => h) ?_ ?_ ; rotate_left ; (· (intro w' hR ; (first | have hcells := later_cellsD ((later_moves).trans _ _ _ hacc hR) | skip) ; go_simp ; try with_reducible rfl)) ; simp only [Act.put, List.setIfInBounds_toArray, List.set_cons_zero, List.set_cons_succ]))
      refine wpGO_call (later_moves) rfl rfl rfl rfl (fun _ _ _ h => h) (fun _ => by go_simp <;> rfl) (fun w' hR => HM1.out _) ?_
      simp only [Act.put, List.setIfInBounds_toArray, List.set_cons_zero, List.set_cons_succ]
      repeat (first | (refine wpGO_skip (later_moves) rfl rfl rfl rfl (fun _ _ _ h => h) ?_ ; simp only [Act.put, List.setIfInBounds_toArray, List.set_cons_zero, List.set_cons_succ]) | (refine wpGO_light (v := ?_) (later_moves) rfl rfl rfl rfl (fun _ _ _ h => h) ?_ ?_ ; rotate_left ; (· (intro w' hR ; (first | have hcells := later_cellsD ((later_moves).trans _ _ _ hacc hR) | skip) ; go_simp ; try with_reducible rfl)) ; simp only [Act.put, List.setIfInBounds_toArray, List.set_cons_zero, List.set_cons_succ]))
      refine wpGO_call (later_moves) rfl rfl rfl rfl (fun _ _ _ h => h) (fun _ => by go_simp <;> rfl) (fun w' hR => HA1.out _) ?_
      simp only [Act.put, List.setIfInBounds_toArray, List.set_cons_zero, List.set_cons_succ]
      repeat (first | (refine wpGO_skip (later_moves) rfl rfl rfl rfl (fun _ _ _ h => h) ?_ ; simp only [Act.put, List.setIfInBounds_toArray, List.set_cons_zero, List.set_cons_succ]) | (refine wpGO_light (v := ?_) (later_moves) rfl rfl rfl rfl (fun _ _ _ h => h) ?_ ?_ ; rotate_left ; (· (intro w' hR ; (first | have hcells := later_cellsD ((later_moves).trans _ _ _ hacc hR) | skip) ; go_simp ; try with_reducible rfl)) ; simp only [Act.put, List.setIfInBounds_toArray, List.set_cons_zero, List.set_cons_succ]))
      refine wpGO_done rfl ?_
      intro wd hRd
      replace hacc := (later_moves).trans _ _ _ hacc hRd
      clear hRd
      go_wp2
      go_roundw
      case rel => exact ⟨i, j2, Lib.hid (by have := HJ2.out; omega), by omega, rfl, by rw [HY2.out], below_chain hb.drew hacc⟩
      case measure => have := HJ2.out; simp [intOf]; omega

theorem upTo_row {n i v : Nat} {F G : Nat → Nat} (h : v = F i) : (U64 ((List.range n).map (upTo F G i))).set i (.int .u64 (v : Int)) = U64 ((List.range n).map (upTo F G (i + 1))) := by
  have := upTo_set (n := n) (G := G) h
  rw [fill_U64, fill_U64] at this
  have h2 := congrArg Array.toList this
  simpa using h2
theorem upTo_row0 (n : Nat) (F G : Nat → Nat) : (List.range n).map (upTo F G 0) = (List.range n).map G := List.map_congr_left fun i _ => by simp [upTo]
theorem upTo_rown (n : Nat) (F G : Nat → Nat) : (List.range n).map (upTo F G n) = (List.range n).map F := List.map_congr_left fun i hi => by simp [upTo, List.mem_range.1 hi]
theorem upTo_at {n i : Nat} (F G : Nat → Nat) (h : i < n) : (U64 ((List.range n).map (upTo F G i)))[i]? = some (.int .u64 (G i : Int)) := by simp [U64, upTo, h]

set_option maxRecDepth 100000 in
set_option maxHeartbeats 1000000 in
theorem rEvaluate_any (p s n : Nat) (A : Option Addr) (m c : Nat) (l : List Nat) (w : World) (hp : okP p = true) (hl : RWd w [.slice A m c] l) (hn : LenOk p n) (hs : s % p ≠ 0) (hm : m ≤ 8192) :
    Calls Tryz.prog 88 #[.int .u64 p, .slice A m c, .int .u64 (s : Int), .int .i64 (n : Int)] w fun e w' => ∃ v, e = .returned (.tuple #[v, .int .i64 0]) ∧ w'.ownsRow w.heap.size 22 1 v n (U64 ((List.range n).map fun i => hornP p (domR p s n i) l)) ∧ Below w.heap.size w w' := by
  have hn4 := hn.le
  have hn1 := hn.pos
  have HD := Lib.hid (fun w => rDomain_any p s n w hp hn hs)
  have HH := Lib.hid (fun x w' (hb : Below w.heap.size w w') => rHorn_any p A m c x l w' hp (kept_RWd _ _ _ _ hb hl))
  obtain ⟨G, hG⟩ : ∃ G, G = domR p s n := ⟨_, rfl⟩
  obtain ⟨F, hF⟩ : ∃ F, F = fun i => hornP p (G i) l := ⟨_, rfl⟩
  have HFG := Lib.hid (fun i => show F i = hornP p (G i) l by rw [hF])
  rw [← hG] at HD ⊢
  rw [← hF]
  clear hG hF hl hp hn hs
  have gm : (m : Int) ≤ 8192 := by omega
  go_enter Tryz.func88, Tryz.ntmps88
  go_wp2_with fail
  refine (HD.out _).mono ?_
  rintro e w1 ⟨v, rfl, hown, hb⟩
  obtain ⟨g, cap, rfl, hg1, hg2⟩ := World.ownsRow.form hown (by omega)
  go_wp2_with fail
  have gn : (n : Int) ≤ 4096 := by omega
  have H0 := Lib.hid (upTo_row0 n F G)
  go_loopw [12] (fun i wr => ∃ k : Nat, k ≤ n ∧ i = .int .i64 (k : Int) ∧ wr.ownsRow w.heap.size 22 1 (.slice (some ⟨g, 0, none⟩) n cap) n (U64 ((List.range n).map (upTo F G k))) ∧ Below w.heap.size w wr) (fun i _ => n - (intOf i).toNat)
  case atStart => exact ⟨0, Nat.zero_le _, rfl, by rw [H0.out]; exact hown, hb⟩
  case round =>
    clear hown hb
    obtain ⟨k, hk, rfl, hown, hb⟩ := hrel
    by_cases hlt : k < n
    · have g1 : (k : Int) < (n : Int) := by omega
      have c0 : wr.cell? ⟨g, k, none⟩ = some (.int .u64 (G k : Int)) := by rw [hown.cellAt k (by omega)]; exact upTo_at F G hlt
      have lg : g < wr.heap.size := World.block_lt_of_cell? _ _ c0
      obtain ⟨x, hx⟩ : ∃ x, x = G k := ⟨_, rfl⟩
      obtain ⟨z, hz⟩ : ∃ z, z = F k := ⟨_, rfl⟩
      have HST := Lib.hid (upTo_row (n := n) (G := G) hz)
      have ez : hornP p x l = z := by rw [hz, HFG.out, hx]
      have HH1 := Lib.hid (fun w' hb => by have := HH.out x w' hb; rw [ez] at this; exact this)
      clear ez
      rw [← hx] at c0
      have HX := Lib.hid hx
      clear hx hz
      go_wp2_with fail
      refine (HH1.out _ hb).mono ?_
      rintro e w2 ⟨rfl, hbx⟩
      replace hb := below_chain hb hbx
      replace hown := own_below hown hbx (Nat.le_refl _)
      clear hbx
      clear c0 lg
      have c2 : w2.cell? ⟨g, k, none⟩ = some (.int .u64 (x : Int)) := by rw [hown.cellAt k (by omega), HX.out]; exact upTo_at F G hlt
      have f2 := hown.frozenAt
      obtain ⟨hown2, hg⟩ := hown.stored k (.int .u64 (z : Int))
      rw [HST.out] at hown2
      have hb2 := hb.trans (below_of_only hg hb.size hg1)
      go_wp2_with fail
      go_roundw
      case rel => exact ⟨k + 1, by omega, by go_num, hown2, hb2⟩
      case measure => simp [intOf]; omega
    · obtain rfl : k = n := by omega
      have g1 : ¬ ((k : Int) < (k : Int)) := by omega
      rw [upTo_rown] at hown
      go_wp2
      go_ret2
      exact ⟨_, rfl, hown, hb⟩
end Go.Proofs.YtefnagiffllhbaaGreat

/- PoE -/
namespace Go.Proofs.YtefnagiffllhbaaGreat
open Go.RowKit

/-- ref04.Interpolate's coefficients. -/
def intE (p : Nat) (l : List Nat) (i : Nat) : Nat := hornP p (domR p 1 l.length i) l
def intR (p : Nat) (l : List Nat) (s i : Nat) : Nat := intE p l ((l.length - i) % l.length) * geoR p (l.length ^ (p - 2) % p) ((s % p) ^ (p - 2) % p) i % p

set_option maxRecDepth 100000 in
set_option maxHeartbeats 2000000 in
theorem rInterpolate_any (p s n : Nat) (A : Option Addr) (c : Nat) (l : List Nat) (w : World) (hp : okP p = true) (hl : RWd w [.slice A n c] l) (hn : LenOk p n) (hs : s % p ≠ 0) :
    Calls Tryz.prog 40 #[.int .u64 p, .slice A n c, .int .u64 (s : Int)] w fun e w' => ∃ v, e = .returned (.tuple #[v, .int .i64 0]) ∧ w'.ownsRow w.heap.size 22 1 v n (U64 ((List.range n).map (intR p l s))) ∧ Below w.heap.size w w' := by
  obtain ⟨hp1, hp2⟩ := okP_lt hp
  have hn4 := hn.le
  have hn1 := hn.pos
  have hnl := (lw_at hl).1
  have HD := Lib.hid (fun w => rDomain_any p s n w hp hn hs)
  have HV := Lib.hid (fun w' (hb : Below w.heap.size w w') => rEvaluate_any p 1 n A n c l w' hp (kept_RWd _ _ _ _ hb hl) hn (by rw [Nat.mod_eq_of_lt (by omega)]; decide) (by omega))
  have HM := Lib.hid (fun a b w => rMul_any p a b w hp)
  obtain ⟨x0, hx0⟩ : ∃ x0, x0 = s % p := ⟨_, rfl⟩
  obtain ⟨s0, hs0⟩ : ∃ s0, s0 = n ^ (p - 2) % p := ⟨_, rfl⟩
  obtain ⟨t, ht⟩ : ∃ t, t = x0 ^ (p - 2) % p := ⟨_, rfl⟩
  have HI1 := Lib.hid (fun w => by have := rInv_any p n w hp; rw [← hs0] at this; exact this)
  have HI2 := Lib.hid (fun w => by have := rInv_any p x0 w hp; rw [← ht] at this; exact this)
  obtain ⟨E, hE⟩ : ∃ E, E = fun i => hornP p (domR p 1 n i) l := ⟨_, rfl⟩
  rw [← hE] at HV
  obtain ⟨R, hR⟩ : ∃ R, R = fun i => E ((n - i) % n) := ⟨_, rfl⟩
  have HR0 := Lib.hid (show [E 0] = (List.range 1).map R by rw [hR]; simp)
  have HRS := Lib.hid (show ∀ i k, i + k = n → 0 < i → 0 < k → (List.range k).map R ++ [E i] = (List.range (k + 1)).map R from fun i k h h1 h2 => by
    rw [← range_snoc R k, hR]
    show _ ++ [E i] = _ ++ [E ((n - k) % n)]
    rw [show n - k = i by omega, Nat.mod_eq_of_lt (by omega)])
  obtain ⟨S, hS⟩ : ∃ S, S = geoR p s0 t := ⟨_, rfl⟩
  have HS0 := Lib.hid (show S 0 = s0 by rw [hS]; rfl)
  have HS1 := Lib.hid (show ∀ k, S (k + 1) = S k * t % p from fun k => by rw [hS]; rfl)
  obtain ⟨F, hF⟩ : ∃ F, F = fun i => R i * S i % p := ⟨_, rfl⟩
  have HF := Lib.hid (show ∀ i, F i = R i * S i % p from fun i => by rw [hF])
  have hres : intR p l s = F := by
    funext i
    rw [hF, hR, hE, hS, hs0, ht, hx0]
    simp only [intR, intE, ← hnl]
  rw [hres]
  have p1 : (0 : Int) < (p : Int) := by omega
  have p2 : ((p : Int) == 0) = false := by rw [beq_eq_false_iff_ne]; omega
  have p3 : ¬ (p = 0) := by omega
  have e1 : (s : Int) % (p : Int) = (x0 : Int) := by rw [hx0]; rfl
  have e2 : (s : Int).tmod (p : Int) = (x0 : Int) := by rw [hx0]; rfl
  have en : IntKind.u64.wrap (n : Int) = (n : Int) := wr_nat _ (by omega)
  obtain ⟨m, hm⟩ : ∃ m : Nat, m = n - 1 := ⟨_, rfl⟩
  have em : (n : Int) - 1 = (m : Int) := by omega
  have em2 : IntKind.i64.wrap (m : Int) = (m : Int) := wr_i64 _ (by omega) (by omega)
  have gn : (n : Int) ≤ 4096 := by omega
  have gn1 : (0 : Int) < (n : Int) := by omega
  have hmn : m + 1 = n := by omega
  have HMN := Lib.hid hmn
  clear hx0 hs0 ht hE hR hS hF hres hl hp hn hs hp1 hp2 hnl hm hmn
  go_enter Tryz.func40, Tryz.ntmps40
  go_wp2_with fail
  refine (HD.out _).mono ?_
  rintro e w1 ⟨v0, rfl, -, hb⟩
  go_wp2_with fail
  refine (HV.out _ hb).mono ?_
  rintro e w2 ⟨v1, rfl, hown1, hbx⟩
  replace hb := below_chain hb hbx
  clear hbx
  obtain ⟨g1, cap1, rfl, hg1, hg2⟩ := World.ownsRow.form hown1 (by omega)
  have hrd : Rd w2 1 (some ⟨g1, 0, none⟩) n (U64 ((List.range n).map E)) := by
    obtain ⟨A', c', he, -, -, h3, -⟩ := own_form hown1
    injection he with h1 h2 h3'
    subst h1
    exact h3
  have hcE : ∀ (u : World) i, Below w2.heap.size w2 u → i < n → u.cell? ⟨g1, i, none⟩ = some (.int .u64 (E i : Int)) := fun u i hu hi => by
    have h := hu.cell (p := ⟨g1, i, none⟩) hg2
    rw [h, hown1.cellAt i (by omega)]
    simp [U64, hi]
  have HC := Lib.hid hcE
  have c0 := hcE w2 0 (Below.refl _ _) (by omega)
  clear hown1 hrd hcE
  obtain ⟨y0, hy0⟩ : ∃ y0, y0 = E 0 := ⟨_, rfl⟩
  rw [← hy0] at c0 HR0
  clear hy0
  have own0 := World.ownsRow_lit (base := w2.heap.size) (e := 22) (size := 1) w2 #[.int .u64 (y0 : Int)] 1 (Nat.le_refl _) (by simp [maxLen]) rfl
  have hal := (Below.refl w2.heap.size w2).alloc (Nat.le_refl _) (.cells #[.int .u64 (y0 : Int)] 22)
  replace own0 : (w2.alloc (.cells #[.int .u64 (y0 : Int)] 22)).ownsRow w2.heap.size 22 1 (.slice (some ⟨w2.heap.size, 0, none⟩) 1 1) 1 (U64 ((List.range 1).map R)) := by
    rw [← HR0.out]; exact own0
  go_wp2_with fail
  clear c0
  go_loopw [13, 14] (fun v i wr => ∃ i' k : Nat, i = .int .i64 (i' : Int) ∧ Hid (i' + k = n) ∧ 0 < k ∧ i' < n ∧ k ≤ n ∧ wr.ownsRow w2.heap.size 22 1 v k (U64 ((List.range k).map R)) ∧ Below w2.heap.size w2 wr) (fun _ i _ => (intOf i).toNat)
  case atStart => exact ⟨m, 1, rfl, Lib.hid HMN.out, by omega, by have := HMN.out; omega, by omega, own0, hal⟩
  case round =>
    clear own0 hal
    obtain ⟨i, k, rfl, HK, hk0, hin, hkn, hown, hb2⟩ := hrel
    rcases Nat.eq_zero_or_pos i with hi0 | hi0
    · subst hi0
      have hk : k = n := by have := HK.out; omega
      subst hk
      go_wp2_with fail
      refine (HI1.out _).mono ?_
      rintro e w3 ⟨rfl, hbx⟩
      replace hb2 := below_chain hb2 hbx
      replace hown := own_below hown hbx (Nat.le_refl _)
      clear hbx
      go_wp2_with fail
      refine (HI2.out _).mono ?_
      rintro e w4 ⟨rfl, hbx⟩
      replace hb2 := below_chain hb2 hbx
      replace hown := own_below hown hbx (Nat.le_refl _)
      clear hbx
      obtain ⟨g, cap, rfl, hg3, hg4⟩ := World.ownsRow.form hown (by omega)
      replace hown := own_base hown hb.size
      replace hg3 : w.heap.size ≤ g := Nat.le_trans hb.size hg3
      replace hb := hb.trans (hb2.mono hb.size)
      clear hb2
      go_wp2_with fail
      have H0 := Lib.hid (upTo_row0 k F R)
      go_loopw [15, 17] (fun y i wr => ∃ j : Nat, j ≤ k ∧ i = .int .i64 (j : Int) ∧ y = .int .u64 (S j : Int) ∧ wr.ownsRow w.heap.size 22 1 (.slice (some ⟨g, 0, none⟩) k cap) k (U64 ((List.range k).map (upTo F R j))) ∧ Below w.heap.size w wr) (fun _ i _ => k - (intOf i).toNat)
      case atStart => exact ⟨0, Nat.zero_le _, rfl, by rw [HS0.out], by rw [H0.out]; exact hown, hb⟩
      case round =>
        clear hown hb
        obtain ⟨j, hj, rfl, rfl, hown, hb⟩ := hrel
        by_cases hlt : j < k
        · have q1 : (j : Int) < (k : Int) := by omega
          have c0 : wr.cell? ⟨g, j, none⟩ = some (.int .u64 (R j : Int)) := by rw [hown.cellAt j (by omega)]; exact upTo_at F R hlt
          have lg : g < wr.heap.size := World.block_lt_of_cell? _ _ c0
          obtain ⟨z, hz⟩ : ∃ z, z = F j := ⟨_, rfl⟩
          have HST := Lib.hid (upTo_row (n := k) (G := R) hz)
          have HF1 := Lib.hid (HF.out j)
          rw [← hz] at HF1
          have HS2 := Lib.hid (HS1.out j)
          obtain ⟨s2, hs2⟩ : ∃ s2, s2 = S (j + 1) := ⟨_, rfl⟩
          rw [← hs2] at HS2
          have HSS := Lib.hid hs2
          obtain ⟨x, hx⟩ : ∃ x, x = R j := ⟨_, rfl⟩
          obtain ⟨y, hy⟩ : ∃ y, y = S j := ⟨_, rfl⟩
          rw [← hx, ← hy] at HF1
          rw [← hy] at HS2 ⊢
          have HM1 := Lib.hid (fun w => by have := HM.out x y w; rw [← HF1.out] at this; exact this)
          have HM2 := Lib.hid (fun w => by have := HM.out y t w; rw [← HS2.out] at this; exact this)
          rw [← hx] at c0
          have HX := Lib.hid hx
          clear hx hz hy hs2 HF1 HS2
          go_wp2_with fail
          refine (HM1.out _).mono ?_
          rintro e w5 ⟨rfl, hbx⟩
          replace hb := below_chain hb hbx
          replace hown := own_below hown hbx (Nat.le_refl _)
          clear hbx
          clear c0 lg
          have c2 : w5.cell? ⟨g, j, none⟩ = some (.int .u64 (x : Int)) := by rw [hown.cellAt j (by omega), HX.out]; exact upTo_at F R hlt
          have f2 := hown.frozenAt
          obtain ⟨hown2, hg⟩ := hown.stored j (.int .u64 (z : Int))
          rw [HST.out] at hown2
          have hb2 := hb.trans (below_of_only hg hb.size hg3)
          clear hown hb
          go_wp2_with fail
          clear f2 c2 hg
          generalize w5.setCell _ _ = w6 at hown2 hb2 ⊢
          refine (HM2.out _).mono ?_
          rintro e w7 ⟨rfl, hbx⟩
          replace hb2 := below_chain hb2 hbx
          replace hown2 := own_below hown2 hbx (Nat.le_refl _)
          go_wp2_with fail
          go_roundw
          case rel => exact ⟨j + 1, by omega, by go_num, by rw [HSS.out], hown2, hb2⟩
          case measure => simp [intOf]; omega
        · obtain rfl : j = k := by omega
          have q1 : ¬ ((j : Int) < (j : Int)) := by omega
          rw [upTo_rown] at hown
          go_wp2
          go_ret2
          exact ⟨_, rfl, hown, hb⟩
    · have q1 : (0 : Int) < (i : Int) := by omega
      have q2 : (i : Int) < (n : Int) := by omega
      have c1 := HC.out wr i hb2 hin
      have HRS1 := Lib.hid (HRS.out i k HK.out hi0 hk0)
      obtain ⟨z, hz⟩ : ∃ z, z = E i := ⟨_, rfl⟩
      rw [← hz] at c1 HRS1
      clear hz
      obtain ⟨i2, hi2⟩ : ∃ i2, i2 = i - 1 := ⟨_, rfl⟩
      have ei : (i : Int) - 1 = (i2 : Int) := by omega
      have ei2 : IntKind.i64.wrap (i2 : Int) = (i2 : Int) := wr_i64 _ (by omega) (by omega)
      have HI := Lib.hid hi2
      clear hi2
      go_wp2_with (at_builtin; refine wpl_append rfl _ _ rfl el_w rfl (hown.alloc _) rfl (rd_one _ _ _) (one_U64 [z]) (by omega) (by simp; have := hb2.size; omega) ?_)
      intro v' wn hown' hgrow hblk
      have hal := (Below.refl wr.heap.size wr).alloc (Nat.le_refl _) (.cells #[.int .u64 (z : Int)] 22)
      have hB := lw_grow (hown.alloc _) hgrow (by simp; have := hb2.size; omega)
      replace hb2 := (below_on hb2 hal hb2.size).trans hB
      replace hown : wn.ownsRow w2.heap.size 22 1 v' (k + 1) (U64 ((List.range (k + 1)).map R)) := lw_app (b := [z]) hown' HRS1.out
      clear hown' hgrow hblk hal hB
      go_wp2
      go_roundw
      case rel => exact ⟨i2, k + 1, rfl, Lib.hid (by have := HK.out; have := HI.out; omega), by omega, by have := HI.out; omega, by have := HK.out; omega, hown, hb2⟩
      case measure => have := HI.out; simp [intOf]; omega
end Go.Proofs.YtefnagiffllhbaaGreat
