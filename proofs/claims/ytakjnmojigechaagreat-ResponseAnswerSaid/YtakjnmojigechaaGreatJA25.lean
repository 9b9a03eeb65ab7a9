/- A part of the proof: PoA, PerA, PerB, RPerA, RoA, RPerB, RPerC, SpoA, SqA, RSpoA, SqB, PoB, PoC, PoD, PoE, MkA, MkB, RFs. No condition. -/
import Derived.Test.YtakjnmojigechaaGreatJA16
import Derived.Test.YtakjnmojigechaaGreatJA19
import Derived.Deep.AppendLies
import Derived.Laws.OwnMore
import Derived.Test.YtakjnmojigechaaGreatJA18
import Derived.Test.YtakjnmojigechaaGreatJA24

namespace Go.Proofs.YtakjnmojigechaaGreat
def trimZ : List Nat → List Nat
  | [] => []
  | x :: l => if trimZ l = [] ∧ x = 0 then [] else x :: trimZ l
theorem trimZ_snoc0 : ∀ l : List Nat, trimZ (l ++ [0]) = trimZ l
  | [] => rfl
  | x :: l => by
    rw [List.cons_append, trimZ, trimZ_snoc0 l]
    rfl
theorem trimZ_snoc {y : Nat} (hy : y ≠ 0) : ∀ l : List Nat, trimZ (l ++ [y]) = l ++ [y]
  | [] => by simp [trimZ, hy]
  | x :: l => by
    rw [List.cons_append, trimZ, trimZ_snoc hy l]
    simp
theorem trimZ_len : ∀ l : List Nat, (trimZ l).length ≤ l.length
  | [] => Nat.le_refl _
  | x :: l => by
    rw [trimZ]
    split
    · exact Nat.zero_le _
    · have := trimZ_len l
      simpa using this
theorem trimZ_get : ∀ (l : List Nat) (i : Nat), (trimZ l).getD i 0 = l.getD i 0
  | [], _ => rfl
  | x :: l, i => by
    rw [trimZ]
    split
    · rename_i h
      cases i with
      | zero => simp [h.2]
      | succ i =>
        have := trimZ_get l i
        rw [h.1] at this
        simpa using this
    · cases i with
      | zero => rfl
      | succ i => simpa using trimZ_get l i
theorem trimZ_mem {l : List Nat} {x : Nat} : x ∈ trimZ l → x ∈ l := by
  induction l with
  | nil => exact id
  | cons y l ih =>
    rw [trimZ]
    split
    · intro h; cases h
    · intro h
      rcases List.mem_cons.1 h with h | h
      · exact List.mem_cons.2 (.inl h)
      · exact List.mem_cons.2 (.inr (ih h))
def trimP (p : Nat) (l : List Nat) : List Nat := trimZ (l.map (· % p))
def addR (p : Nat) (a b : List Nat) (i : Nat) : Nat := (a.getD i 0 + b.getD i 0) % p
def addP (p : Nat) (a b : List Nat) : List Nat := trimP p ((List.range (max a.length b.length)).map (addR p a b))
def scaleP (p : Nat) (a : List Nat) (n : Nat) : List Nat := trimP p (a.map fun x => x * n % p)
def shiftP (a : List Nat) (n : Nat) : List Nat := List.replicate n 0 ++ a
def mulK (p : Nat) (a b : List Nat) : Nat → List Nat
  | 0 => []
  | k + 1 => addP p (mulK p a b k) (shiftP (scaleP p b (a.getD k 0)) k)
def mulP (p : Nat) (a b : List Nat) : List Nat := mulK p a b a.length
def evS (p : Nat) (a : List Nat) (f : Nat → Nat) : Nat → Nat
  | 0 => 0
  | k + 1 => (evS p a f k + a.getD k 0 * f k % p) % p
def powR (p x : Nat) : Nat → Nat
  | 0 => 1
  | k + 1 => powR p x k * x % p
def evalP (p : Nat) (a : List Nat) (x : Nat) : Nat := evS p a (powR p x) a.length
def padP (a : List Nat) (n : Nat) : List Nat := a ++ List.replicate (n - a.length) 0
theorem map_mod_get (p : Nat) (l : List Nat) (i : Nat) : (l.map (· % p)).getD i 0 = l.getD i 0 % p := by
  rw [List.getD_eq_getElem?_getD, List.getD_eq_getElem?_getD, List.getElem?_map]
  cases l[i]? <;> simp
theorem trimP_get (p : Nat) (l : List Nat) (i : Nat) : (trimP p l).getD i 0 = l.getD i 0 % p := by
  rw [trimP, trimZ_get, map_mod_get]
theorem trimP_lt {p : Nat} (hp : 0 < p) {l : List Nat} {x : Nat} (h : x ∈ trimP p l) : x < p := by
  obtain ⟨y, -, rfl⟩ := List.mem_map.1 (trimZ_mem h)
  exact Nat.mod_lt _ hp
theorem trimP_len (p : Nat) (l : List Nat) : (trimP p l).length ≤ l.length := by
  have := trimZ_len (l.map (· % p))
  simpa [trimP] using this
theorem range_get (f : Nat → Nat) (n i : Nat) : ((List.range n).map f).getD i 0 = if i < n then f i else 0 := by
  rw [List.getD_eq_getElem?_getD, List.getElem?_map]
  split
  · rename_i h
    rw [List.getElem?_range h]
    rfl
  · rename_i h
    rw [List.getElem?_eq_none (by simpa using h)]
    rfl
theorem getD_out {l : List Nat} {i : Nat} (h : l.length ≤ i) : l.getD i 0 = 0 := by
  rw [List.getD_eq_getElem?_getD, List.getElem?_eq_none h]
  rfl
theorem addP_get (p : Nat) (a b : List Nat) (i : Nat) : (addP p a b).getD i 0 = (a.getD i 0 + b.getD i 0) % p := by
  rw [addP, trimP_get, range_get]
  split
  · rw [addR, Nat.mod_mod]
  · rename_i h
    rw [getD_out (l := a) (by omega), getD_out (l := b) (by omega)]
theorem addP_len (p : Nat) (a b : List Nat) : (addP p a b).length ≤ max a.length b.length := by
  have := trimP_len p ((List.range (max a.length b.length)).map (addR p a b))
  simpa [addP] using this
theorem map_get0 (f : Nat → Nat) (h : f 0 = 0) (l : List Nat) (i : Nat) : (l.map f).getD i 0 = f (l.getD i 0) := by
  rw [List.getD_eq_getElem?_getD, List.getD_eq_getElem?_getD, List.getElem?_map]
  cases l[i]? <;> simp [h]
theorem scaleP_get (p : Nat) (a : List Nat) (n i : Nat) : (scaleP p a n).getD i 0 = a.getD i 0 * n % p := by
  rw [scaleP, trimP_get, map_get0 (fun x => x * n % p) (by simp), Nat.mod_mod]
theorem scaleP_len (p : Nat) (a : List Nat) (n : Nat) : (scaleP p a n).length ≤ a.length := by
  have := trimP_len p (a.map fun x => x * n % p)
  simpa [scaleP] using this
theorem shiftP_get (a : List Nat) (n i : Nat) : (shiftP a n).getD i 0 = if i < n then 0 else a.getD (i - n) 0 := by
  rw [shiftP, List.getD_eq_getElem?_getD]
  split
  · rename_i h
    rw [List.getElem?_append_left (by simpa using h)]
    simp [h]
  · rename_i h
    rw [List.getElem?_append_right (by simpa using h), List.getD_eq_getElem?_getD, List.length_replicate]
theorem shiftP_len (a : List Nat) (n : Nat) : (shiftP a n).length = n + a.length := by simp [shiftP]
theorem mulK_len (p : Nat) (a b : List Nat) : ∀ k, (mulK p a b (k + 1)).length ≤ k + b.length
  | 0 => by
    have h1 := addP_len p (mulK p a b 0) (shiftP (scaleP p b (a.getD 0 0)) 0)
    have h3 := scaleP_len p b (a.getD 0 0)
    rw [shiftP_len] at h1
    have h0 : (mulK p a b 0).length = 0 := rfl
    rw [h0] at h1
    rw [mulK]
    omega
  | k + 1 => by
    have h1 := addP_len p (mulK p a b (k + 1)) (shiftP (scaleP p b (a.getD (k + 1) 0)) (k + 1))
    have h2 := mulK_len p a b k
    have h3 := scaleP_len p b (a.getD (k + 1) 0)
    rw [shiftP_len] at h1
    rw [mulK]
    omega
theorem mulP_len (p : Nat) (a b : List Nat) : (mulP p a b).length ≤ a.length - 1 + b.length := by
  rw [mulP]
  cases h : a.length with
  | zero => exact Nat.zero_le _
  | succ k => exact mulK_len p a b k
theorem mulK_get_zero {p : Nat} (a b : List Nat) (k i : Nat) (h : a.getD k 0 = 0) : (mulK p a b (k + 1)).getD i 0 = (mulK p a b k).getD i 0 % p := by
  rw [mulK, addP_get, shiftP_get, scaleP_get, h]
  split <;> simp
theorem mulK_lt {p : Nat} (hp : 0 < p) (a b : List Nat) (k i : Nat) : (mulK p a b k).getD i 0 < p := by
  cases k with
  | zero => simpa [mulK] using hp
  | succ k => rw [mulK, addP_get]; exact Nat.mod_lt _ hp
theorem padP_get (a : List Nat) (n i : Nat) : (padP a n).getD i 0 = a.getD i 0 := by
  rw [padP, List.getD_eq_getElem?_getD, List.getD_eq_getElem?_getD]
  by_cases h : i < a.length
  · rw [List.getElem?_append_left h]
  · rw [List.getElem?_append_right (by omega), List.getElem?_eq_none (l := a) (by omega), List.getElem?_replicate]
    split <;> rfl
theorem padP_len (a : List Nat) (n : Nat) : (padP a n).length = max n a.length := by
  simp [padP]
  omega
theorem list_ext0 {a b : List Nat} (hl : a.length = b.length) (h : ∀ i, i < a.length → a.getD i 0 = b.getD i 0) : a = b := by
  apply List.ext_getElem hl
  intro i h1 h2
  have := h i h1
  rw [List.getD_eq_getElem?_getD, List.getD_eq_getElem?_getD, List.getElem?_eq_getElem h1, List.getElem?_eq_getElem h2] at this
  exact this
end Go.Proofs.YtakjnmojigechaaGreat
namespace Go.Proofs.YtakjnmojigechaaGreat
open Go.RowKit
structure St where
  a : Nat
  b : Nat
  c : Nat
def St.val (s : St) : Value := .agg #[.int .u64 (s.a : Int), .int .u64 (s.b : Int), .int .u64 (s.c : Int)]
def St.cs (s : St) : Array Value := #[.int .u64 (s.a : Int), .int .u64 (s.b : Int), .int .u64 (s.c : Int)]
def St.ok (s : St) : Prop := s.a < 18446744073709551616 ∧ s.b < 18446744073709551616 ∧ s.c < 18446744073709551616
def mulW (k : Nat) : Nat := k * 11400714819323198485 % 18446744073709551616
def consP (p r i : Nat) : Nat := mulW (3 * r + i + 1) % p
def mixSum (p : Nat) (s : St) : Nat := ((s.a + s.b) % p + s.c) % p
def mixP (p : Nat) (s : St) : St := ⟨(s.a + mixSum p s) % p, (s.b + mixSum p s) % p, (s.c + mixSum p s) % p⟩
def sboxP (p r i x : Nat) : Nat := ((x + consP p r i) % p) ^ (rowOf p).2.2 % p
def St.at_ (s : St) (i : Nat) : Nat := if i = 0 then s.a else if i = 1 then s.b else s.c
def subF (f : Nat → Nat → Nat) (s : St) : Nat → St
  | 0 => s
  | 1 => ⟨f 0 s.a, s.b, s.c⟩
  | 2 => ⟨f 0 s.a, f 1 s.b, s.c⟩
  | _ => ⟨f 0 s.a, f 1 s.b, f 2 s.c⟩
def roundP (p r : Nat) (s : St) : St := mixP p (subF (sboxP p r) s 3)
def permTo (p : Nat) (s : St) : Nat → St
  | 0 => s
  | r + 1 => roundP p r (permTo p s r)
def permP (p : Nat) (s : St) : St := permTo p s 8
theorem St.cs_at (s : St) {i : Nat} (h : i < 3) : s.cs[i]? = some (.int .u64 (s.at_ i : Int)) := by
  rcases (show i = 0 ∨ i = 1 ∨ i = 2 by omega) with rfl | rfl | rfl <;> rfl
theorem subF_at (f : Nat → Nat → Nat) (s : St) {i : Nat} (h : i < 3) : (subF f s i).at_ i = s.at_ i := by
  rcases (show i = 0 ∨ i = 1 ∨ i = 2 by omega) with rfl | rfl | rfl <;> rfl
theorem subF_set (f : Nat → Nat → Nat) (s : St) {i : Nat} (h : i < 3) : (subF f s i).cs.setIfInBounds i (.int .u64 (f i (s.at_ i) : Int)) = (subF f s (i + 1)).cs := by
  rcases (show i = 0 ∨ i = 1 ∨ i = 2 by omega) with rfl | rfl | rfl <;> simp [subF, St.cs, St.at_]
theorem rowOf_lt {p : Nat} (h : okP p = true) : (rowOf p).1 < 18446744073709551616 ∧ (rowOf p).2.2 < 18446744073709551616 := by
  rcases okP_cases h with rfl | rfl | rfl | rfl | rfl | rfl | rfl <;> exact ⟨by decide, by decide⟩
set_option maxRecDepth 100000 in
set_option maxHeartbeats 1000000 in
theorem rPow_any (p a e : Nat) (w : World) (hp : okP p = true) (he : e < 18446744073709551616) :
    Calls Tryz.prog 162 #[.int .u64 p, .int .u64 a, .int .u64 e] w fun e' w' => e' = .returned (.int .u64 ((a ^ e % p : Nat) : Int)) ∧ Below w.heap.size w w' := by
  obtain ⟨hp1, hp2⟩ := okP_lt hp
  have HO := Lib.hid (fun w => by have := rValidP_any p w hp2; rw [hp] at this; exact this)
  have HM := Lib.hid (fun a b w => rMul_any p a b w hp)
  obtain ⟨n, hn⟩ : ∃ n, n = a ^ e % p := ⟨_, rfl⟩
  rw [← hn]
  have HI := Lib.hid (show 1 * (a % p) ^ e % p = n by rw [Nat.one_mul, ← Nat.pow_mod, hn])
  have HP := Lib.hid hp1
  have p1 : (0 : Int) < (p : Int) := by omega
  have e1 : (a : Int) % (p : Int) = ((a % p : Nat) : Int) := rfl
  have e2 : (a : Int).tmod (p : Int) = ((a % p : Nat) : Int) := rfl
  have p3 : ¬ (p = 0) := by omega
  clear hn hp hp1 hp2
  generalize a % p = a0 at *
  go_enter Tryz.func162, Tryz.ntmps162
  go_wp2_with fail
  refine (HO.out _).mono ?_
  rintro e' w1 ⟨rfl, hb0⟩
  go_wp2_with fail
  clear e1 e2
  go_loopw [1, 2, 7] (fun x y z wr => ∃ a' e' r : Nat, x = .int .u64 (a' : Int) ∧ y = .int .u64 (e' : Int) ∧ z = .int .u64 (r : Int) ∧ r < p ∧ e' < 18446744073709551616 ∧ Hid (r * a' ^ e' % p = n) ∧ Below w.heap.size w wr) (fun _ y _ _ => (intOf y).toNat)
  case atStart => exact ⟨a0, e, 1, rfl, rfl, rfl, by have := HP.out; omega, he, HI.out, hb0⟩
  case round =>
    clear hb0
    obtain ⟨a', e', r, rfl, rfl, rfl, hr', he', H, hbr⟩ := hrel
    by_cases h0 : e' = 0
    · subst h0
      have HE := Lib.hid (show r = n by have := H.out; rw [Nat.pow_zero, Nat.mul_one, Nat.mod_eq_of_lt hr'] at this; exact this)
      go_wp2
      go_ret
      exact ⟨by rw [HE.out]; rfl, hbr⟩
    · have g1 : (0 : Int) < (e' : Int) := by omega
      obtain ⟨f, hf⟩ : ∃ f, f = e' / 2 := ⟨_, rfl⟩
      have e1 : (e' : Int) / 2 = (f : Int) := by omega
      have e2 : (e' : Int).tdiv 2 = (f : Int) := by rw [Int.tdiv_eq_ediv_of_nonneg (by omega)]; exact e1
      have HQ := Lib.hid (fun w => HM.out a' a' w)
      rcases (show e' % 2 = 1 ∨ e' % 2 = 0 by omega) with hodd | hodd
      · have eb : (e' : Int) % 2 = 1 := by omega
        have ec : (e' : Int).tmod 2 = 1 := by rw [Int.tmod_eq_emod_of_nonneg (by omega)]; exact eb
        have HF := Lib.hid hf
        have HM1 := Lib.hid (fun w => HM.out r a' w)
        have HX := pow_odd p r a' e' n H.out hodd
        rw [← hf] at HX
        have hs2 : r * a' % p < p := Nat.mod_lt _ (by have := HP.out; omega)
        generalize r * a' % p = s at *
        generalize a' * a' % p = q at *
        replace HX := Lib.hid HX
        clear hodd hf
        go_wp2_with fail
        refine (HM1.out _).mono ?_
        rintro e w1 ⟨rfl, hb1⟩
        replace hbr := below_on hbr hb1 hbr.size
        clear hb1
        go_wp2_with fail
        refine (HQ.out _).mono ?_
        rintro e w2 ⟨rfl, hb2⟩
        replace hbr := below_on hbr hb2 hbr.size
        go_wp2
        go_roundw
        case rel => exact ⟨q, f, s, rfl, rfl, rfl, hs2, by have := HF.out; omega, HX.out, hbr⟩
        case measure => have := HF.out; simp [intOf]; omega
      · have eb : (e' : Int) % 2 = 0 := by omega
        have ec : (e' : Int).tmod 2 = 0 := by rw [Int.tmod_eq_emod_of_nonneg (by omega)]; exact eb
        have HF := Lib.hid hf
        have HX := pow_even p r a' e' n H.out hodd
        rw [← hf] at HX
        generalize a' * a' % p = q at *
        replace HX := Lib.hid HX
        clear hodd hf
        go_wp2_with fail
        refine (HQ.out _).mono ?_
        rintro e w2 ⟨rfl, hb2⟩
        replace hbr := below_on hbr hb2 hbr.size
        go_wp2
        go_roundw
        case rel => exact ⟨q, f, r, rfl, rfl, rfl, hr', by have := HF.out; omega, HX.out, hbr⟩
        case measure => have := HF.out; simp [intOf]; omega
theorem idx_w3_2 {w : World} {a b c : Value} : (Instr.index 166 (.agg #[a, b, c]) (.int .i64 2)).run Tryz.prog w = .ok c w :=
  run_index_arr (i := 2) Tryz.underlying166 agg_u64 size_u64 (by omega) rfl
set_option maxRecDepth 100000 in
set_option maxHeartbeats 400000 in
theorem rExp_any (p : Nat) (w : World) (hp : okP p = true) :
    Calls Tryz.prog 168 #[.int .u64 p] w fun e w' => e = .returned (.int .u64 ((rowOf p).2.2 : Int)) ∧ Below w.heap.size w w' := by
  have HR := Lib.hid (row_any p w (okP_lt hp).2)
  clear hp
  unfold rowVal at HR
  generalize (rowOf p).1 = a at *
  generalize (rowOf p).2.1 = b at *
  generalize (rowOf p).2.2 = c at *
  go_enter Tryz.func168, Tryz.ntmps168
  go_wp2_with (go_at_call 123; refine HR.out.mono ?_; rintro e w1 ⟨rfl, hb⟩)
  rw [idx_w3_2, Result.andThen, Oper.upon_value]
  go_wp2
  go_ret
  exact ⟨rfl, hb⟩
set_option maxRecDepth 100000 in
set_option maxHeartbeats 400000 in
theorem rGen_any (p : Nat) (w : World) (hp : okP p = true) :
    Calls Tryz.prog 121 #[.int .u64 p] w fun e w' => e = .returned (.int .u64 ((rowOf p).1 : Int)) ∧ Below w.heap.size w w' := by
  have HR := Lib.hid (row_any p w (okP_lt hp).2)
  clear hp
  unfold rowVal at HR
  generalize (rowOf p).1 = a at *
  generalize (rowOf p).2.1 = b at *
  generalize (rowOf p).2.2 = c at *
  go_enter Tryz.func121, Tryz.ntmps121
  go_wp2_with (go_at_call 123; refine HR.out.mono ?_; rintro e w1 ⟨rfl, hb⟩)
  rw [idx_w3_0, Result.andThen, Oper.upon_value]
  go_wp2
  go_ret
  exact ⟨rfl, hb⟩
def sumP (p : Nat) (l : List Nat) : Nat := l.foldl (fun s x => (s + x) % p) 0
set_option maxRecDepth 100000 in
set_option maxHeartbeats 400000 in
theorem rSum_any (p : Nat) (A : Option Addr) (n c : Nat) (l : List Nat) (w : World) (hp : okP p = true) (hl : RWd w [.slice A n c] l) :
    Calls Tryz.prog 171 #[.int .u64 p, .slice A n c] w fun e w' => e = .returned (.int .u64 (sumP p l : Int)) ∧ Below w.heap.size w w' := by
  obtain ⟨rfl, h1, h2, hlt, hrd⟩ := lw_at hl
  have gm := lw_max h1 h2
  have HA := Lib.hid (fun a b w => rAdd_any p a b w hp)
  have HS := Lib.hid (show sumP p l = l.foldl (fun s x => (s + x) % p) 0 from rfl)
  rw [HS.out]
  clear HS hl h1 h2 hp hlt
  go_enter Tryz.func171, Tryz.ntmps171
  go_wp2_with fail
  go_loopw [5, 6] (fun y i wr => ∃ k : Nat, k ≤ l.length ∧ i = .int .i64 (k : Int) ∧ y = .int .u64 (((l.take k).foldl (fun s x => (s + x) % p) 0 : Nat) : Int) ∧ Below w.heap.size w wr) (fun _ i _ => l.length - (intOf i).toNat)
  case atStart => exact ⟨0, Nat.zero_le _, rfl, rfl, Below.refl _ _⟩
  case round =>
    obtain ⟨k, hk, rfl, rfl, hbr⟩ := hrel
    by_cases hlt : k < l.length
    · obtain ⟨b, q, rfl, hbl, hc⟩ := lw_get (hrd.below hbr) hlt
      have HF := Lib.hid (lw_fold (fun s x => (s + x) % p) 0 l k hlt)
      generalize l.getD k 0 = y at *
      generalize (l.take k).foldl (fun s x => (s + x) % p) 0 = s at *
      have HA1 := Lib.hid (fun w => HA.out s y w)
      have HF2 := Lib.hid (show (l.take (k + 1)).foldl (fun s x => (s + x) % p) 0 = (s + y) % p from HF.out)
      clear HF
      generalize (s + y) % p = z at *
      have g1 : (0 : Int) ≤ (k : Int) := by omega
      have g2 : (k : Int) < (l.length : Int) := by omega
      go_wp2_with fail
      refine (HA1.out _).mono ?_
      rintro e w1 ⟨rfl, hb1⟩
      replace hbr := below_on hbr hb1 hbr.size
      clear hc hb1
      go_wp2
      go_roundw
      case rel => exact ⟨k + 1, by omega, by go_num, by rw [HF2.out], hbr⟩
      case measure => simp [intOf]; omega
    · obtain rfl : k = l.length := by omega
      rw [List.take_length]
      go_wp2
      go_ret
      exact ⟨rfl, hbr⟩
set_option maxRecDepth 100000 in
set_option maxHeartbeats 1000000 in
theorem rReduce_any (p a : Nat) (w : World) (hp : okP p = true) :
    Calls Tryz.prog 141 #[.int .u64 p, .int .u64 a] w fun e w' => e = .returned (.int .u64 ((a % p : Nat) : Int)) ∧ Below w.heap.size w w' := by
  obtain ⟨hp1, hp2⟩ := okP_lt hp
  have HO := Lib.hid (fun w => by have := rValidP_any p w hp2; rw [hp] at this; exact this)
  have p1 : (0 : Int) < (p : Int) := by omega
  have p3 : ¬ (p = 0) := by omega
  have e1 : (a : Int) % (p : Int) = ((a % p : Nat) : Int) := rfl
  have e2 : (a : Int).tmod (p : Int) = ((a % p : Nat) : Int) := rfl
  clear hp hp1 hp2
  generalize a % p = r at *
  go_enter Tryz.func141, Tryz.ntmps141
  go_wp2_with fail
  refine (HO.out _).mono ?_
  rintro e w1 ⟨rfl, hb0⟩
  go_wp2
  go_ret
  exact ⟨rfl, hb0⟩
set_option maxRecDepth 100000 in
set_option maxHeartbeats 1000000 in
theorem rNeg_any (p a : Nat) (w : World) (hp : okP p = true) :
    Calls Tryz.prog 122 #[.int .u64 p, .int .u64 a] w fun e w' => e = .returned (.int .u64 (negP p a : Int)) ∧ Below w.heap.size w w' := by
  obtain ⟨hp1, hp2⟩ := okP_lt hp
  have HA := Lib.hid (fun w => rReduce_any p a w hp)
  have hx : a % p < p := Nat.mod_lt _ (by omega)
  have HN := Lib.hid (show negP p a = if a % p = 0 then 0 else p - a % p from rfl)
  clear hp
  generalize negP p a = r at *
  generalize a % p = x at *
  by_cases h0 : x = 0
  · have HR := Lib.hid (show r = 0 by rw [HN.out, if_pos h0])
    subst h0
    go_enter Tryz.func122, Tryz.ntmps122
    go_wp2_with fail
    refine (HA.out _).mono ?_
    rintro e' w1 ⟨rfl, hb1⟩
    go_wp2
    go_ret
    exact ⟨by rw [HR.out]; rfl, hb1⟩
  · have HR := Lib.hid (show r = p - x by rw [HN.out, if_neg h0])
    have d1 : ((x : Int) == 0) = false := by rw [beq_eq_false_iff_ne]; omega
    have e1 : IntKind.u64.wrap ((p : Int) - (x : Int)) = ((p - x : Nat) : Int) := wr_sub p x (by omega) hp2
    rw [HR.out]
    clear hx hp1 hp2 h0 HR HN
    generalize p - x = z at *
    go_enter Tryz.func122, Tryz.ntmps122
    go_wp2_with fail
    refine (HA.out _).mono ?_
    rintro e' w1 ⟨rfl, hb1⟩
    go_wp2
    go_ret
    exact ⟨rfl, hb1⟩
set_option maxRecDepth 100000 in
set_option maxHeartbeats 1000000 in
theorem rSub_any (p a b : Nat) (w : World) (hp : okP p = true) :
    Calls Tryz.prog 62 #[.int .u64 p, .int .u64 a, .int .u64 b] w fun e w' => e = .returned (.int .u64 (((a + negP p b) % p : Nat) : Int)) ∧ Below w.heap.size w w' := by
  have HN := Lib.hid (fun w => rNeg_any p b w hp)
  have HS := Lib.hid (fun w => rAdd_any p a (negP p b) w hp)
  clear hp
  generalize (a + negP p b) % p = r at *
  generalize negP p b = x at *
  go_enter Tryz.func62, Tryz.ntmps62
  go_wp2_with fail
  refine (HN.out _).mono ?_
  rintro e' w1 ⟨rfl, hb1⟩
  go_wp2_with fail
  refine (HS.out _).mono ?_
  rintro e' w2 ⟨rfl, hb2⟩
  go_wp2
  go_ret
  exact ⟨rfl, below_on hb1 hb2 hb1.size⟩
set_option maxRecDepth 100000 in
set_option maxHeartbeats 1000000 in
theorem rInv_any (p a : Nat) (w : World) (hp : okP p = true) :
    Calls Tryz.prog 146 #[.int .u64 p, .int .u64 a] w fun e w' => e = .returned (.int .u64 ((a ^ (p - 2) % p : Nat) : Int)) ∧ Below w.heap.size w w' := by
  obtain ⟨hp1, hp2⟩ := okP_lt hp
  have HO := Lib.hid (fun w => by have := rValidP_any p w hp2; rw [hp] at this; exact this)
  have HS := Lib.hid (fun w => rPow_any p a (p - 2) w hp (by omega))
  have e1 : IntKind.u64.wrap ((p : Int) - 2) = ((p - 2 : Nat) : Int) := wr_sub p 2 (by omega) hp2
  clear hp hp1 hp2
  generalize a ^ (p - 2) % p = r at *
  generalize p - 2 = m at *
  go_enter Tryz.func146, Tryz.ntmps146
  go_wp2_with fail
  refine (HO.out _).mono ?_
  rintro e w1 ⟨rfl, hb1⟩
  go_wp2_with fail
  refine (HS.out _).mono ?_
  rintro e' w2 ⟨rfl, hb2⟩
  go_wp2
  go_ret
  exact ⟨rfl, below_on hb1 hb2 hb1.size⟩
set_option maxRecDepth 100000 in
set_option maxHeartbeats 1000000 in
theorem rRoot_any (p n : Nat) (w : World) (hp : okP p = true) (hn : LenOk p n) :
    Calls Tryz.prog 151 #[.int .u64 p, .int .i64 (n : Int)] w fun e w' => e = .returned (.tuple #[.int .u64 (rootP p n : Int), .bool true]) ∧ Below w.heap.size w w' := by
  obtain ⟨h1, h2, ⟨j, hj⟩, h4⟩ := hn
  obtain ⟨hp1, hp2⟩ := okP_lt hp
  have HV := Lib.hid (fun w => by have := rValidP_any p w hp2; rw [hp] at this; exact this)
  have HG := Lib.hid (fun w => rGen_any p w hp)
  obtain ⟨pm, hpm⟩ : ∃ pm, pm = p - 1 := ⟨_, rfl⟩
  obtain ⟨m, hm⟩ : ∃ m, m = pm / n := ⟨_, rfl⟩
  have HP := Lib.hid (fun w => rPow_any p (rowOf p).1 m w hp (by rw [hm]; exact Nat.lt_of_le_of_lt (Nat.div_le_self _ _) (by omega)))
  have hR : rootP p n = (rowOf p).1 ^ m % p := by unfold rootP; rw [hm, hpm]
  rw [hR]
  have ep : IntKind.u64.wrap ((p : Int) - 1) = (pm : Int) := by rw [hpm]; exact wr_sub p 1 (by omega) hp2
  have en : IntKind.u64.wrap (n : Int) = (n : Int) := wr_nat _ (by omega)
  have em : IntKind.u64.wrap (m : Int) = (m : Int) := wr_nat _ (by rw [hm]; exact Nat.lt_of_le_of_lt (Nat.div_le_self _ _) (by omega))
  have r1 : (pm : Int) % (n : Int) = 0 := by rw [hpm]; omega
  have r2 : (pm : Int).tmod (n : Int) = 0 := by rw [Int.tmod_eq_emod_of_nonneg (by omega)]; exact r1
  have r3 : (pm : Int) / (n : Int) = (m : Int) := by rw [hm]; rfl
  have r4 : (pm : Int).tdiv (n : Int) = (m : Int) := by rw [hm]; rfl
  have n0 : ¬ ((n : Int) = 0) := by omega
  have n5 : ¬ (n = 0) := by omega
  have n1 : (1 : Int) ≤ (n : Int) := by omega
  have n2 : ((n : Int) == 0) = false := by rw [beq_eq_false_iff_ne]; exact n0
  have n4 : (n : Int) ≤ 4096 := by omega
  have HJ := Lib.hid hj
  clear hR hm hp1 hp2 h1 h2 hj h4 hp hpm
  generalize (rowOf p).1 = gn at *
  generalize gn ^ m % p = r at *
  go_enter Tryz.func151, Tryz.ntmps151
  go_wp2_with fail
  refine (HV.out _).mono ?_
  rintro e' w1 ⟨rfl, hb1⟩
  go_wp2_with fail
  go_loopw [6] (fun x wr => ∃ i k : Nat, x = .int .i64 (k : Int) ∧ Hid (k = 2 ^ i) ∧ 1 ≤ k ∧ k ≤ 4096 ∧ Below w.heap.size w wr) (fun x _ => (intOf x).toNat)
  case atStart => exact ⟨j, n, rfl, HJ, by omega, by omega, hb1⟩
  case round =>
    clear hb1
    obtain ⟨i, k, rfl, HK, hk1, hk2, hb⟩ := hrel
    by_cases hi : k = 1
    · subst hi
      go_upto_region 8 with fail
      refine wpGO_begin (Later) (later_moves) [] [] [0, 1, 2, 3, 4, 5, 6, 7, 8, 9, 10] (by kernel_rfl) (by kernel_rfl) ?_
      refine wpGO_start (later_moves) ?_
      intro Wc hacc
      repeat (first | (refine wpGO_skip (later_moves) rfl rfl rfl rfl (fun _ _ _ h => h) ?_ ; simp only [Act.put, List.setIfInBounds_toArray, List.set_cons_zero, List.set_cons_succ]) | (refine wpGO_light (v := ?_) (later_moves) rfl rfl rfl rfl (fun _ _ _ h => h) ?_ ?_ ; rotate_left ; (· (intro w' hR ; (first | have hcells := later_cellsD ((later_moves).trans _ _ _ hacc hR) | skip) ; go_simp ; try with_reducible rfl)) ; simp only [Act.put, List.setIfInBounds_toArray, List.set_cons_zero, List.set_cons_succ]))
      refine wpGO_call (later_moves) rfl rfl rfl rfl (fun _ _ _ h => h) (fun _ => by go_simp <;> rfl) (fun w' hR => HG.out _) ?_
      simp only [Act.put, List.setIfInBounds_toArray, List.set_cons_zero, List.set_cons_succ]
      repeat (first | (refine wpGO_skip (later_moves) rfl rfl rfl rfl (fun _ _ _ h => h) ?_ ; simp only [Act.put, List.setIfInBounds_toArray, List.set_cons_zero, List.set_cons_succ]) | (refine wpGO_light (v := ?_) (later_moves) rfl rfl rfl rfl (fun _ _ _ h => h) ?_ ?_ ; rotate_left ; (· (intro w' hR ; (first | have hcells := later_cellsD ((later_moves).trans _ _ _ hacc hR) | skip) ; go_simp ; try with_reducible rfl)) ; simp only [Act.put, List.setIfInBounds_toArray, List.set_cons_zero, List.set_cons_succ]))
      refine wpGO_call (later_moves) rfl rfl rfl rfl (fun _ _ _ h => h) (fun _ => by go_simp <;> rfl) (fun w' hR => HP.out _) ?_
      simp only [Act.put, List.setIfInBounds_toArray, List.set_cons_zero, List.set_cons_succ]
      repeat (first | (refine wpGO_skip (later_moves) rfl rfl rfl rfl (fun _ _ _ h => h) ?_ ; simp only [Act.put, List.setIfInBounds_toArray, List.set_cons_zero, List.set_cons_succ]) | (refine wpGO_light (v := ?_) (later_moves) rfl rfl rfl rfl (fun _ _ _ h => h) ?_ ?_ ; rotate_left ; (· (intro w' hR ; (first | have hcells := later_cellsD ((later_moves).trans _ _ _ hacc hR) | skip) ; go_simp ; try with_reducible rfl)) ; simp only [Act.put, List.setIfInBounds_toArray, List.set_cons_zero, List.set_cons_succ]))
      refine wpGO_done rfl ?_
      intro wd hRd
      replace hacc := (later_moves).trans _ _ _ hacc hRd
      clear hRd
      go_wp2
      go_ret2
      exact ⟨rfl, below_chain hb.drew hacc⟩
    · obtain ⟨f, hf⟩ : ∃ f, f = k / 2 := ⟨_, rfl⟩
      have hk0 : k % 2 = 0 := by
        have := HK.out
        cases i with
        | zero => omega
        | succ i => rw [this, Nat.pow_succ]; omega
      have HF : Hid (f = 2 ^ (i - 1)) := by
        have := HK.out
        cases i with
        | zero => omega
        | succ i => exact Lib.hid (by rw [hf, this, Nat.pow_succ, Nat.add_sub_cancel]; omega)
      have e1 : (k : Int) / 2 = (f : Int) := by omega
      have e2 : (k : Int).tdiv 2 = (f : Int) := by rw [Int.tdiv_eq_ediv_of_nonneg (by omega)]; exact e1
      have e3 : (k : Int) % 2 = 0 := by omega
      have e4 : (k : Int).tmod 2 = 0 := by rw [Int.tmod_eq_emod_of_nonneg (by omega)]; exact e3
      have hf1 : 1 ≤ f := by omega
      have hf2 : f < k := by omega
      clear hf hk0
      go_wp2
      go_roundw
      case rel => exact ⟨i - 1, f, rfl, HF, hf1, by omega, hb⟩
      case measure => simp [intOf]; omega
set_option maxRecDepth 100000 in
set_option maxHeartbeats 400000 in
theorem rConst_any (p r i : Nat) (w : World) (hp : okP p = true) (hr : r < 8) (hi : i < 3) :
    Calls Tryz.prog 167 #[.int .u64 p, .int .i64 (r : Int), .int .i64 (i : Int)] w fun e w' => e = .returned (.int .u64 (consP p r i : Int)) ∧ Below w.heap.size w w' := by
  obtain ⟨hp1, hp2⟩ := okP_lt hp
  have HO := Lib.hid (fun w => by have := rValidP_any p w hp2; rw [hp] at this; exact this)
  have HC := Lib.hid (show consP p r i = mulW (3 * r + i + 1) % p from rfl)
  rw [HC.out]
  clear HC hp
  obtain ⟨k, hk⟩ : ∃ k, k = 3 * r + i + 1 := ⟨_, rfl⟩
  rw [← hk]
  have g1 : (r : Int) ≤ 7 := by omega
  have g2 : (i : Int) ≤ 2 := by omega
  have e1 : 3 * (r : Int) + (i : Int) + 1 = (k : Int) := by omega
  have e2 : IntKind.u64.wrap (k : Int) = (k : Int) := wr_nat _ (by omega)
  have e3 : IntKind.u64.wrap ((k : Int) * 11400714819323198485) = (mulW k : Int) := by
    rw [IntKind.wrap_u64]
    have : ((k : Int) * 11400714819323198485) = ((k * 11400714819323198485 : Nat) : Int) := by rw [Int.natCast_mul]; rfl
    rw [this]
    rfl
  have e4 : (mulW k : Int) % (p : Int) = ((mulW k % p : Nat) : Int) := rfl
  have e5 : (mulW k : Int).tmod (p : Int) = ((mulW k % p : Nat) : Int) := rfl
  have p1 : (0 : Int) < (p : Int) := by omega
  have p3 : ¬ (p = 0) := by omega
  clear hk hr hi
  generalize mulW k % p = m at *
  generalize mulW k = z at *
  go_enter Tryz.func167, Tryz.ntmps167
  go_wp2_with fail
  refine (HO.out _).mono ?_
  rintro e w1 ⟨rfl, hb⟩
  go_wp2
  go_ret
  exact ⟨rfl, hb⟩
def outF (f : Nat → Nat) (s : St) : Nat → St
  | 0 => ⟨0, 0, 0⟩
  | 1 => ⟨f s.a, 0, 0⟩
  | 2 => ⟨f s.a, f s.b, 0⟩
  | _ => ⟨f s.a, f s.b, f s.c⟩
theorem outF_set (f : Nat → Nat) (s : St) {i : Nat} (h : i < 3) : (outF f s i).cs.setIfInBounds i (.int .u64 (f (s.at_ i) : Int)) = (outF f s (i + 1)).cs := by
  rcases (show i = 0 ∨ i = 1 ∨ i = 2 by omega) with rfl | rfl | rfl <;> simp [outF, St.cs, St.at_]
theorem sum3 (p : Nat) (s : St) : sumP p [s.a, s.b, s.c] = mixSum p s := by
  simp [sumP, mixSum]
set_option maxRecDepth 100000 in
set_option maxHeartbeats 1000000 in
theorem rMix_any (p : Nat) (s : St) (w : World) (hp : okP p = true) (hs : s.ok) :
    Calls Tryz.prog 169 #[.int .u64 p, s.val] w fun e w' => e = .returned (mixP p s).val ∧ Below w.heap.size w w' := by
  have HA := Lib.hid (fun a b w => rAdd_any p a b w hp)
  have HR := Lib.hid (show mixP p s = outF (fun x => (x + mixSum p s) % p) s 3 from rfl)
  rw [HR.out]
  obtain ⟨k1, k2, k3, hb0, hsz⟩ := boxes3 w 166 166 22 #[.int .u64 (s.a : Int), .int .u64 (s.b : Int), .int .u64 (s.c : Int)] #[.int .u64 0, .int .u64 0, .int .u64 0] #[.int .u64 (s.a : Int), .int .u64 (s.b : Int), .int .u64 (s.c : Int)]
  have hlist : RWd _ [.slice (some ⟨w.heap.size + 1 + 1, 0, none⟩) 3 3] [s.a, s.b, s.c] := lw_lit (l := [s.a, s.b, s.c]) k3 (fun x hx => by
    simp at hx
    rcases hx with rfl | rfl | rfl
    · exact hs.1
    · exact hs.2.1
    · exact hs.2.2) (by simp [maxLen])
  have HSM := Lib.hid (rSum_any p _ 3 3 [s.a, s.b, s.c] _ hp hlist)
  rw [sum3] at HSM
  clear HR hlist hp hs k3
  generalize hm : mixSum p s = m at *
  clear hm
  have ev : s.val = .agg #[.int .u64 (s.a : Int), .int .u64 (s.b : Int), .int .u64 (s.c : Int)] := rfl
  rw [ev]
  clear ev
  go_enter Tryz.func169, Tryz.ntmps169
  go_wp2_with fail
  generalize ((w.alloc _).alloc _).alloc _ = w0 at k1 k2 hb0 hsz HSM ⊢
  refine HSM.out.mono ?_
  rintro e w1 ⟨rfl, hb1⟩
  replace k1 := k1.below hb1 k1.lt
  replace k2 := k2.below hb1 k2.lt
  replace hb0 := below_chain hb0 hb1
  have hs1 := hb1.size
  clear hb1 HSM
  have hal := (Below.refl w1.heap.size w1).alloc (Nat.le_refl _) (.cells #[.int .u64 0, .int .u64 0, .int .u64 0] 166)
  have k4 := Blk.new w1 166 #[.int .u64 0, .int .u64 0, .int .u64 0]
  replace k1 := k1.below hal k1.lt
  replace k2 := k2.below hal k2.lt
  replace hb0 := below_chain hb0 hal
  have hgl : w.heap.size + 1 < w1.heap.size := by omega
  clear hal
  go_upto_block 0 with fail
  generalize w1.alloc _ = w2 at k1 k2 k4 hb0 ⊢
  generalize w1.heap.size = g at k4 hgl ⊢
  clear hs1
  have k4' : Blk w2 g 166 (outF (fun x => (x + m) % p) s 0).cs := k4
  have k1' : Blk w2 w.heap.size 166 s.cs := k1
  clear k1 k4
  go_wp2_with fail
  go_loopw [7] (fun i wr => ∃ k : Nat, k ≤ 3 ∧ i = .int .i64 (k : Int) ∧ Blk wr w.heap.size 166 s.cs ∧ Blk wr (w.heap.size + 1) 166 #[.int .u64 0, .int .u64 0, .int .u64 0] ∧ Blk wr g 166 (outF (fun x => (x + m) % p) s k).cs ∧ Below w.heap.size w wr) (fun i _ => 3 - (intOf i).toNat)
  case atStart => exact ⟨0, Nat.zero_le _, rfl, k1', k2, k4', hb0⟩
  case round =>
    clear k1' k2 k4' hb0
    obtain ⟨k, hk, rfl, k1, k2, k4, hb0⟩ := hrel
    by_cases hlt : k < 3
    · have g1 : (k : Int) < 3 := by omega
      have cm := k1.cell k
      rw [St.cs_at _ hlt] at cm
      obtain ⟨y, hy⟩ : ∃ y, y = (s.at_ k + m) % p := ⟨_, rfl⟩
      have HSET := Lib.hid (show (outF (fun x => (x + m) % p) s k).cs.setIfInBounds k (.int .u64 (y : Int)) = (outF (fun x => (x + m) % p) s (k + 1)).cs from by rw [hy]; exact outF_set (fun x => (x + m) % p) s hlt)
      have HA1 := Lib.hid (fun w => HA.out (s.at_ k) m w)
      rw [← hy] at HA1
      clear hy
      have cz := k4.cell k
      rw [St.cs_at _ hlt] at cz
      generalize (outF (fun x => (x + m) % p) s k).at_ k = old at cz
      generalize s.at_ k = x at *
      go_wp2_with fail
      refine (HA1.out _).mono ?_
      rintro e w3 ⟨rfl, hb3⟩
      have cz3 : w3.cell? ⟨g, k, none⟩ = some (.int .u64 (old : Int)) := (Below.cell hb3 (World.block_lt_of_cell? _ _ cz)).trans cz
      replace k1 := k1.below hb3 k1.lt
      replace k2 := k2.below hb3 k2.lt
      replace k4 := k4.below hb3 k4.lt
      replace hb0 := below_chain hb0 hb3
      have f4 := k4.frozen k
      clear cz cm hb3
      go_wp2_with fail
      have hg : w3.grownBy (w3.setCell ⟨g, k, none⟩ (.int .u64 (y : Int))) (some g) := grown_setCell' (p := ⟨g, k, none⟩) (grown_refl' w3 _) (.inl rfl) _
      replace k4 := k4.set_ k (.int .u64 (y : Int))
      rw [HSET.out] at k4
      replace k1 := k1.grown hg (fun e => by have := Option.some.inj e; omega)
      replace k2 := k2.grown hg (fun e => by have := Option.some.inj e; omega)
      replace hb0 := hb0.trans (below_of_only hg hb0.size (by omega))
      clear hg f4 cz3
      generalize w3.setCell _ _ = Wf at k1 k2 k4 hb0 ⊢
      go_roundw
      case rel => exact ⟨k + 1, by omega, by go_num, k1, k2, k4, hb0⟩
      case measure => simp [intOf]; omega
    · obtain rfl : k = 3 := by omega
      obtain ⟨q, hq⟩ : ∃ q, q = outF (fun x => (x + m) % p) s 3 := ⟨_, rfl⟩
      rw [← hq] at k4
      have HQ := Lib.hid hq
      clear hq
      have k4' : Blk wr g 166 #[.int .u64 (q.a : Int), .int .u64 (q.b : Int), .int .u64 (q.c : Int)] := k4
      have c4 := k4'.cell
      have c2 := k2.cell
      have f2 := k2.frozen
      go_wp2_with fail
      have hg := set3_grown (w := wr) (g := w.heap.size + 1) (.int .u64 (q.a : Int)) (.int .u64 (q.b : Int)) (.int .u64 (q.c : Int))
      have kz := set3_blk k2 (.int .u64 (q.a : Int)) (.int .u64 (q.b : Int)) (.int .u64 (q.c : Int))
      clear c4 c2 f2 k2
      generalize ((World.setCell wr _ _).setCell _ _).setCell _ _ = Wf at hg kz ⊢
      have cz := kz.cell
      have hs := hb0.size
      exact bodyPost_ret (v := .agg #[.int .u64 (q.a : Int), .int .u64 (q.b : Int), .int .u64 (q.c : Int)]) (by simp [results, Tryz.results169, go_sem, cz]) rfl ⟨by rw [← HQ.out]; rfl, hb0.trans (below_of_only hg hs (by omega))⟩
theorem St.ok_of_lt {s : St} {p : Nat} (hp : p < 18446744073709551616) (h1 : s.a < p) (h2 : s.b < p) (h3 : s.c < p) : s.ok := ⟨by omega, by omega, by omega⟩
theorem sboxP_lt {p : Nat} (h1 : 0 < p) (r i x : Nat) : sboxP p r i x < p := Nat.mod_lt _ h1
set_option maxRecDepth 100000 in
set_option maxHeartbeats 1000000 in
theorem rPermute_any (p : Nat) (s : St) (w : World) (hp : okP p = true) :
    Calls Tryz.prog 159 #[.int .u64 p, s.val] w fun e w' => e = .returned (permP p s).val ∧ Below w.heap.size w w' := by
  obtain ⟨hp1, hp2⟩ := okP_lt hp
  have HV := Lib.hid (fun w => by have := rValidP_any p w hp2; rw [hp] at this; exact this)
  have HE := Lib.hid (fun w => rExp_any p w hp)
  have HC := Lib.hid (fun r i w hr hi => rConst_any p r i w hp hr hi)
  have HA := Lib.hid (fun a b w => rAdd_any p a b w hp)
  have HP := Lib.hid (fun a n w hn => rPow_any p a n w hp hn)
  have HM := Lib.hid (fun s w h => rMix_any p s w hp h)
  have HSO := Lib.hid (show ∀ (f : Nat → Nat → Nat) (t : St), (∀ i x, f i x < p) → (subF f t 3).ok from fun f t h => St.ok_of_lt hp2 (h 0 _) (h 1 _) (h 2 _))
  have HSL := Lib.hid (show ∀ r i x, sboxP p r i x < p from fun r i x => sboxP_lt (by omega) r i x)
  have hel := (rowOf_lt hp).2
  have HSB := Lib.hid (show ∀ r i x, sboxP p r i x = ((x + consP p r i) % p) ^ (rowOf p).2.2 % p from fun _ _ _ => rfl)
  clear hp hp1 hp2
  generalize (rowOf p).2.2 = ex at *
  have HEL := Lib.hid hel
  clear hel
  obtain ⟨k1, k2, hb0, hsz⟩ := boxes2 w 166 166 #[.int .u64 (s.a : Int), .int .u64 (s.b : Int), .int .u64 (s.c : Int)] #[.int .u64 0, .int .u64 0, .int .u64 0]
  have HPO := Lib.hid (show (permP p s).val = (permTo p s 8).val from rfl)
  rw [HPO.out]
  clear HPO
  have ev : s.val = .agg #[.int .u64 (s.a : Int), .int .u64 (s.b : Int), .int .u64 (s.c : Int)] := rfl
  rw [ev]
  clear ev
  go_enter Tryz.func159, Tryz.ntmps159
  go_wp2_with fail
  generalize (w.alloc _).alloc _ = w0 at k1 k2 hb0 hsz ⊢
  refine (HV.out _).mono ?_
  rintro e w2 ⟨rfl, hb2⟩
  replace k1 : Blk w2 w.heap.size 166 (permTo p s 0).cs := k1.below hb2 k1.lt
  replace k2 := k2.below hb2 k2.lt
  replace hb0 := below_chain hb0 hb2
  clear hb2 hsz HV
  go_wp2_with fail
  go_loopw [5] (fun i wr => ∃ r : Nat, r ≤ 8 ∧ i = .int .i64 (r : Int) ∧ Blk wr w.heap.size 166 (permTo p s r).cs ∧ Blk wr (w.heap.size + 1) 166 #[.int .u64 0, .int .u64 0, .int .u64 0] ∧ Below w.heap.size w wr) (fun i _ => 8 - (intOf i).toNat)
  case atStart => exact ⟨0, Nat.zero_le _, rfl, k1, k2, hb0⟩
  case round =>
    clear k1 k2 hb0
    obtain ⟨r, hr, rfl, k1, k2, hb0⟩ := hrel
    by_cases hlt : r < 8
    · have g1 : (r : Int) < 8 := by omega
      obtain ⟨t, ht⟩ : ∃ t, t = permTo p s r := ⟨_, rfl⟩
      rw [← ht] at k1
      have HT := Lib.hid (show permTo p s (r + 1) = mixP p (subF (sboxP p r) t 3) by rw [permTo, ← ht]; rfl)
      clear ht
      go_wp2_with fail
      go_loopw [6] (fun i wr => ∃ m : Nat, m ≤ 3 ∧ i = .int .i64 (m : Int) ∧ Blk wr w.heap.size 166 (subF (sboxP p r) t m).cs ∧ Blk wr (w.heap.size + 1) 166 #[.int .u64 0, .int .u64 0, .int .u64 0] ∧ Below w.heap.size w wr) (fun i _ => 3 - (intOf i).toNat)
      case atStart => exact ⟨0, Nat.zero_le _, rfl, k1, k2, hb0⟩
      case round =>
        clear k1 k2 hb0
        obtain ⟨m, hm, rfl, k1, k2, hb0⟩ := hrel
        by_cases hlt2 : m < 3
        · have g2 : (m : Int) < 3 := by omega
          have cm := k1.cell m
          rw [St.cs_at _ hlt2, subF_at _ _ hlt2] at cm
          have HSET := Lib.hid (subF_set (sboxP p r) t hlt2)
          have HSV := Lib.hid (HSB.out r m (t.at_ m))
          have HC1 := Lib.hid (fun w => HC.out r m w hlt hlt2)
          have HA1 := Lib.hid (fun w => HA.out (t.at_ m) (consP p r m) w)
          have HP1 := Lib.hid (fun w => HP.out ((t.at_ m + consP p r m) % p) ex w HEL.out)
          rw [← HSV.out] at HP1
          clear HSV
          generalize sboxP p r m (t.at_ m) = sv at *
          generalize (t.at_ m + consP p r m) % p = av at *
          generalize consP p r m = cv at *
          generalize t.at_ m = xv at *
          have l1 := k1.lt
          go_wp2_with fail
          refine wpGO_begin (Later) (later_moves) [15] [15] [0, 1, 2, 3, 4, 5, 6, 7, 8, 9, 10, 11, 12, 13, 14, 15] (by kernel_rfl) (by kernel_rfl) ?_
          refine wpGO_start (later_moves) ?_
          intro Wc hacc
          repeat (first | (refine wpGO_skip (later_moves) rfl rfl rfl rfl (fun _ _ _ h => h) ?_ ; simp only [Act.put, List.setIfInBounds_toArray, List.set_cons_zero, List.set_cons_succ]) | (refine wpGO_light (v := ?_) (later_moves) rfl rfl rfl rfl (fun _ _ _ h => h) ?_ ?_ ; rotate_left ; (· (intro w' hR ; (first | have hcells := later_cellsD ((later_moves).trans _ _ _ hacc hR) | skip) ; go_simp ; try with_reducible rfl)) ; simp only [Act.put, List.setIfInBounds_toArray, List.set_cons_zero, List.set_cons_succ]) | (refine wpGO_free (v := ?_) rfl rfl rfl rfl (fun _ _ _ h => h) ?_ ?_ ; rotate_left ; (· (intro w' ; go_simp ; try with_reducible rfl)) ; simp only [Act.put, List.setIfInBounds_toArray, List.set_cons_zero, List.set_cons_succ]))
          refine wpGO_call (later_moves) rfl rfl rfl rfl (fun _ _ _ h => h) (fun _ => by go_simp <;> rfl) (fun w' hR => HC1.out _) ?_
          simp only [Act.put, List.setIfInBounds_toArray, List.set_cons_zero, List.set_cons_succ]
          repeat (first | (refine wpGO_skip (later_moves) rfl rfl rfl rfl (fun _ _ _ h => h) ?_ ; simp only [Act.put, List.setIfInBounds_toArray, List.set_cons_zero, List.set_cons_succ]) | (refine wpGO_light (v := ?_) (later_moves) rfl rfl rfl rfl (fun _ _ _ h => h) ?_ ?_ ; rotate_left ; (· (intro w' hR ; (first | have hcells := later_cellsD ((later_moves).trans _ _ _ hacc hR) | skip) ; go_simp ; try with_reducible rfl)) ; simp only [Act.put, List.setIfInBounds_toArray, List.set_cons_zero, List.set_cons_succ]) | (refine wpGO_free (v := ?_) rfl rfl rfl rfl (fun _ _ _ h => h) ?_ ?_ ; rotate_left ; (· (intro w' ; go_simp ; try with_reducible rfl)) ; simp only [Act.put, List.setIfInBounds_toArray, List.set_cons_zero, List.set_cons_succ]))
          refine wpGO_call (later_moves) rfl rfl rfl rfl (fun _ _ _ h => h) (fun _ => by go_simp <;> rfl) (fun w' hR => HA1.out _) ?_
          simp only [Act.put, List.setIfInBounds_toArray, List.set_cons_zero, List.set_cons_succ]
          repeat (first | (refine wpGO_skip (later_moves) rfl rfl rfl rfl (fun _ _ _ h => h) ?_ ; simp only [Act.put, List.setIfInBounds_toArray, List.set_cons_zero, List.set_cons_succ]) | (refine wpGO_light (v := ?_) (later_moves) rfl rfl rfl rfl (fun _ _ _ h => h) ?_ ?_ ; rotate_left ; (· (intro w' hR ; (first | have hcells := later_cellsD ((later_moves).trans _ _ _ hacc hR) | skip) ; go_simp ; try with_reducible rfl)) ; simp only [Act.put, List.setIfInBounds_toArray, List.set_cons_zero, List.set_cons_succ]) | (refine wpGO_free (v := ?_) rfl rfl rfl rfl (fun _ _ _ h => h) ?_ ?_ ; rotate_left ; (· (intro w' ; go_simp ; try with_reducible rfl)) ; simp only [Act.put, List.setIfInBounds_toArray, List.set_cons_zero, List.set_cons_succ]))
          refine wpGO_call (later_moves) rfl rfl rfl rfl (fun _ _ _ h => h) (fun _ => by go_simp <;> rfl) (fun w' hR => HE.out _) ?_
          simp only [Act.put, List.setIfInBounds_toArray, List.set_cons_zero, List.set_cons_succ]
          repeat (first | (refine wpGO_skip (later_moves) rfl rfl rfl rfl (fun _ _ _ h => h) ?_ ; simp only [Act.put, List.setIfInBounds_toArray, List.set_cons_zero, List.set_cons_succ]) | (refine wpGO_light (v := ?_) (later_moves) rfl rfl rfl rfl (fun _ _ _ h => h) ?_ ?_ ; rotate_left ; (· (intro w' hR ; (first | have hcells := later_cellsD ((later_moves).trans _ _ _ hacc hR) | skip) ; go_simp ; try with_reducible rfl)) ; simp only [Act.put, List.setIfInBounds_toArray, List.set_cons_zero, List.set_cons_succ]) | (refine wpGO_free (v := ?_) rfl rfl rfl rfl (fun _ _ _ h => h) ?_ ?_ ; rotate_left ; (· (intro w' ; go_simp ; try with_reducible rfl)) ; simp only [Act.put, List.setIfInBounds_toArray, List.set_cons_zero, List.set_cons_succ]))
          refine wpGO_call (later_moves) rfl rfl rfl rfl (fun _ _ _ h => h) (fun _ => by go_simp <;> rfl) (fun w' hR => HP1.out _) ?_
          simp only [Act.put, List.setIfInBounds_toArray, List.set_cons_zero, List.set_cons_succ]
          repeat (first | (refine wpGO_skip (later_moves) rfl rfl rfl rfl (fun _ _ _ h => h) ?_ ; simp only [Act.put, List.setIfInBounds_toArray, List.set_cons_zero, List.set_cons_succ]) | (refine wpGO_light (v := ?_) (later_moves) rfl rfl rfl rfl (fun _ _ _ h => h) ?_ ?_ ; rotate_left ; (· (intro w' hR ; (first | have hcells := later_cellsD ((later_moves).trans _ _ _ hacc hR) | skip) ; go_simp ; try with_reducible rfl)) ; simp only [Act.put, List.setIfInBounds_toArray, List.set_cons_zero, List.set_cons_succ]) | (refine wpGO_free (v := ?_) rfl rfl rfl rfl (fun _ _ _ h => h) ?_ ?_ ; rotate_left ; (· (intro w' ; go_simp ; try with_reducible rfl)) ; simp only [Act.put, List.setIfInBounds_toArray, List.set_cons_zero, List.set_cons_succ]))
          refine wpGO_heavy rfl rfl rfl rfl ?_
          intro wh hRh
          replace hacc := (later_moves).trans _ _ _ hacc hRh
          replace k1 := k1.drew.below hacc k1.lt
          replace k2 := k2.drew.below hacc k2.lt
          replace hb0 := below_chain hb0.drew hacc
          have f1 := k1.frozen m
          have cm2 : wh.cell? ⟨w.heap.size, m, none⟩ = some (.int .u64 (xv : Int)) := cell_later hacc cm
          clear l1 cm
          go_simp
          refine ⟨fun h => Bool.noConfusion h, ?_⟩
          have hg : wh.grownBy (wh.setCell ⟨w.heap.size, m, none⟩ (.int .u64 (sv : Int))) (some w.heap.size) := grown_setCell' (p := ⟨w.heap.size, m, none⟩) (grown_refl' wh _) (.inl rfl) _
          replace k1 := k1.set_ m (.int .u64 (sv : Int))
          rw [HSET.out] at k1
          replace k2 := k2.grown hg (fun e => by have := Option.some.inj e; omega)
          replace hb0 := hb0.trans (below_of_only hg hb0.size (Nat.le_refl _))
          clear hg f1 cm2
          generalize wh.setCell _ _ = Wf at k1 k2 hb0 ⊢
          refine wpGO_doneP rfl ?_
          go_wp2
          go_roundw
          case rel => exact ⟨m + 1, by omega, by go_num, k1, k2, hb0⟩
          case measure => simp [intOf]; omega
        · obtain rfl : m = 3 := by omega
          obtain ⟨q, hq⟩ : ∃ q, q = subF (sboxP p r) t 3 := ⟨_, rfl⟩
          have hqo : q.ok := by rw [hq]; exact HSO.out _ _ (HSL.out r)
          rw [← hq] at k1 HT
          clear hq
          have k1' : Blk wr w.heap.size 166 #[.int .u64 (q.a : Int), .int .u64 (q.b : Int), .int .u64 (q.c : Int)] := k1
          obtain ⟨z, hz⟩ : ∃ z, z = mixP p q := ⟨_, rfl⟩
          rw [← hz] at HT
          have HM1 := Lib.hid (show ∀ w, Calls Tryz.prog 169 #[.int .u64 p, .agg #[.int .u64 (q.a : Int), .int .u64 (q.b : Int), .int .u64 (q.c : Int)]] w fun e w' => e = .returned (.agg #[.int .u64 (z.a : Int), .int .u64 (z.b : Int), .int .u64 (z.c : Int)]) ∧ Below w.heap.size w w' from fun w => by rw [hz]; exact HM.out q w hqo)
          clear hz k1 hqo
          have c1 := k1'.cell
          go_wp2_with fail
          refine (HM1.out _).mono ?_
          rintro e w5 ⟨rfl, hb5⟩
          replace k1' := k1'.below hb5 k1'.lt
          replace k2 := k2.below hb5 k2.lt
          replace hb0 := below_chain hb0 hb5
          clear hb5 c1
          have c1 := k1'.cell
          have f1 := k1'.frozen
          go_wp2_with fail
          have hg := set3_grown (w := w5) (g := w.heap.size) (.int .u64 (z.a : Int)) (.int .u64 (z.b : Int)) (.int .u64 (z.c : Int))
          have kz := set3_blk k1' (.int .u64 (z.a : Int)) (.int .u64 (z.b : Int)) (.int .u64 (z.c : Int))
          replace k2 := k2.grown hg (fun e => by have := Option.some.inj e; omega)
          replace hb0 := hb0.trans (below_of_only hg hb0.size (Nat.le_refl _))
          clear hg c1 f1 k1'
          generalize ((World.setCell w5 _ _).setCell _ _).setCell _ _ = Wf at kz k2 hb0 ⊢
          go_roundw
          case rel => exact ⟨r + 1, by omega, by go_num, by rw [HT.out]; exact kz, k2, hb0⟩
          case measure => simp [intOf]; omega
    · obtain rfl : r = 8 := by omega
      obtain ⟨q, hq⟩ : ∃ q, q = permTo p s 8 := ⟨_, rfl⟩
      rw [← hq] at k1
      have HQ := Lib.hid hq
      clear hq
      have k1' : Blk wr w.heap.size 166 #[.int .u64 (q.a : Int), .int .u64 (q.b : Int), .int .u64 (q.c : Int)] := k1
      have c1 := k1'.cell
      have c2 := k2.cell
      have f2 := k2.frozen
      go_wp2_with fail
      have hg := set3_grown (w := wr) (g := w.heap.size + 1) (.int .u64 (q.a : Int)) (.int .u64 (q.b : Int)) (.int .u64 (q.c : Int))
      have kz := set3_blk k2 (.int .u64 (q.a : Int)) (.int .u64 (q.b : Int)) (.int .u64 (q.c : Int))
      clear c1 c2 f2 k2
      generalize ((World.setCell wr _ _).setCell _ _).setCell _ _ = Wf at hg kz ⊢
      have cz := kz.cell
      have hs := hb0.size
      exact bodyPost_ret (v := .agg #[.int .u64 (q.a : Int), .int .u64 (q.b : Int), .int .u64 (q.c : Int)]) (by simp [results, Tryz.results159, go_sem, cz]) rfl ⟨by rw [← HQ.out]; rfl, hb0.trans (below_of_only hg hs (by omega))⟩
def absP (p : Nat) : List Nat → St → St
  | [], s => s
  | [x], s => permP p ⟨(s.a + x) % p, s.b, s.c⟩
  | x :: y :: r, s => absP p r (permP p ⟨(s.a + x) % p, (s.b + y) % p, s.c⟩)
def absorbP (p label : Nat) (l : List Nat) : St := absP p l ⟨0, 0, (label * 65536 % p + l.length) % p⟩
theorem drop_two {l : List Nat} {i : Nat} (h : i + 1 < l.length) : l.drop i = l.getD i 0 :: l.getD (i + 1) 0 :: l.drop (i + 2) := by
  rw [List.drop_eq_getElem_cons (by omega), List.drop_eq_getElem_cons h, List.getD_eq_getElem?_getD, List.getD_eq_getElem?_getD, List.getElem?_eq_getElem h, List.getElem?_eq_getElem (show i < l.length by omega)]
  rfl
theorem drop_one {l : List Nat} {i : Nat} (h : i + 1 = l.length) : l.drop i = [l.getD i 0] := by
  rw [List.drop_eq_getElem_cons (by omega), List.getD_eq_getElem?_getD, List.getElem?_eq_getElem (show i < l.length by omega), List.drop_of_length_le (by omega)]
  rfl
def perI (p : Nat) (s : St) : Nat → St
  | 0 => s
  | m + 1 => permP p (perI p s m)
def sqAt (p : Nat) (s : St) (k : Nat) : Nat := (perI p s (k / 2)).at_ (k % 2)
set_option maxRecDepth 100000 in
set_option maxHeartbeats 2000000 in
theorem rAbsorb_any (p label : Nat) (A : Option Addr) (n c : Nat) (l : List Nat) (w : World) (hp : okP p = true) (hl : RWd w [.slice A n c] l) (hne : 0 < l.length) (hlen : l.length ≤ 1000000) :
    Calls Tryz.prog 158 #[.int .u64 p, .int .u64 label, .slice A n c] w fun e w' => e = .returned (absorbP p label l).val ∧ Below w.heap.size w w' := by
  obtain ⟨rfl, h1, h2, hlt, hrd⟩ := lw_at hl
  have gm := lw_max h1 h2
  have HMu := Lib.hid (fun w => rMul_any p label 65536 w hp)
  have HA0 := Lib.hid (fun w => rAdd_any p (label * 65536 % p) l.length w hp)
  have HA := Lib.hid (fun a b w => rAdd_any p a b w hp)
  have HP := Lib.hid (fun s w => rPermute_any p s w hp)
  have HF := Lib.hid (show absorbP p label l = absP p (l.drop 0) ⟨0, 0, (label * 65536 % p + l.length) % p⟩ from rfl)
  have ew : IntKind.u64.wrap (l.length : Int) = (l.length : Int) := wr_nat _ (by omega)
  generalize absorbP p label l = fin at *
  generalize (label * 65536 % p + l.length) % p = c0 at *
  generalize label * 65536 % p = m0 at *
  clear hl h1 h2 hp
  have hb0 : Below w.heap.size w (w.alloc (.cells #[.int .u64 0, .int .u64 0, .int .u64 0] 166)) := (Below.refl _ _).alloc (Nat.le_refl _) _
  have kr := Blk.new w 166 #[.int .u64 0, .int .u64 0, .int .u64 0]
  go_enter Tryz.func158, Tryz.ntmps158
  go_wp2_with fail
  generalize w.alloc _ = w0 at kr hb0 ⊢
  refine (HMu.out _).mono ?_
  rintro e w1 ⟨rfl, hb1⟩
  replace kr := kr.below hb1 kr.lt
  replace hb0 := below_chain hb0 hb1
  go_wp2_with fail
  refine (HA0.out _).mono ?_
  rintro e w2 ⟨rfl, hb2⟩
  replace kr := kr.below hb2 kr.lt
  replace hb0 := below_chain hb0 hb2
  have hsw : w.heap.size < w2.heap.size := kr.lt
  have hal := (Below.refl w2.heap.size w2).alloc (Nat.le_refl _) (.cells #[.int .u64 0, .int .u64 0, .int .u64 (c0 : Int)] 166)
  have ks : Blk _ w2.heap.size 166 (St.mk 0 0 c0).cs := Blk.new w2 166 #[.int .u64 0, .int .u64 0, .int .u64 (c0 : Int)]
  replace kr := kr.below hal kr.lt
  replace hb0 := below_chain hb0 hal
  clear hb1 hb2 hal
  go_upto_block 0 with fail
  generalize w2.alloc _ = w4 at kr ks hb0 ⊢
  generalize w2.heap.size = g at ks hsw ⊢
  go_wp2_with fail
  go_loopw [8] (fun y wr => ∃ (i : Nat) (q : St), i ≤ l.length + 1 ∧ y = .int .i64 (i : Int) ∧ Blk wr w.heap.size 166 #[.int .u64 0, .int .u64 0, .int .u64 0] ∧ Blk wr g 166 q.cs ∧ Below w.heap.size w wr ∧ Hid (absP p (l.drop i) q = fin)) (fun y _ => l.length - (intOf y).toNat)
  case atStart => exact ⟨0, ⟨0, 0, c0⟩, by omega, rfl, kr, ks, hb0, HF.out.symm⟩
  case round =>
    clear kr ks hb0
    obtain ⟨i, q, hi, rfl, kr, ks, hb0, HI⟩ := hrel
    obtain ⟨qa, qb, qc⟩ := q
    have ks2 : Blk wr g 166 #[.int .u64 (qa : Int), .int .u64 (qb : Int), .int .u64 (qc : Int)] := ks
    replace ks := ks2
    clear ks2
    by_cases hi1 : i < l.length
    · have hx := lw_getD hlt hi1
      obtain ⟨bb, bq, eA, hbl, cl⟩ := lw_get (hrd.below hb0) hi1
      have HLT := Lib.hid hlt
      have HRD := Lib.hid hrd
      have HI1 := Lib.hid hi1
      have g1 : (0 : Int) ≤ (i : Int) := by omega
      have g2 : (i : Int) < (l.length : Int) := by omega
      have hdi : ((i : Int) == 0) = true ∨ ((i : Int) == 0) = false := by cases ((i : Int) == 0) <;> simp
      rcases hdi with di | di
      · by_cases hi2 : i + 1 < l.length
        · obtain ⟨bb2, bq2, eA2, hbl2, cl2⟩ := lw_get (hrd.below hb0) hi2
          have HD := Lib.hid (drop_two hi2)
          obtain ⟨i1, hi1e⟩ : ∃ i1, i1 = i + 1 := ⟨_, rfl⟩
          have e1 : (i : Int) + 1 = (i1 : Int) := by omega
          have e2 : IntKind.i64.wrap ((i : Int) + 1) = (i1 : Int) := by rw [IntKind.wrap_i64]; omega
          have e3 : IntKind.i64.wrap (i1 : Int) = (i1 : Int) := by rw [IntKind.wrap_i64]; omega
          have g4 : (0 : Int) ≤ (i1 : Int) := by omega
          have g3 : (i1 : Int) < (l.length : Int) := by omega
          have HI2 := Lib.hid (show i1 < l.length by omega)
          have HI1E := Lib.hid hi1e
          rw [eA] at eA2
          have eA3 := Option.some.inj eA2
          injection eA3 with e5 e6
          subst e5 e6
          subst eA
          clear eA2 hbl2
          have HIF := Lib.hid (show absP p (l.getD i 0 :: l.getD (i + 1) 0 :: l.drop (i + 2)) ⟨qa, qb, qc⟩ = fin by rw [← HD.out]; exact HI.out)
          clear HD hlt hrd hi2 hx hi1e
          obtain ⟨y, hy⟩ : ∃ y, y = l.getD (i + 1) 0 := ⟨_, rfl⟩
          generalize l.getD i 0 = x at *
          rw [← hy] at HIF cl2
          have HY := Lib.hid hy.symm
          clear hy
          have HA1 := Lib.hid (fun w => HA.out qa x w)
          have HA2 := Lib.hid (fun w => HA.out qb y w)
          obtain ⟨na, hna⟩ : ∃ na, na = (qa + x) % p := ⟨_, rfl⟩
          obtain ⟨nb, hnb⟩ : ∃ nb, nb = (qb + y) % p := ⟨_, rfl⟩
          rw [← hna] at HA1
          rw [← hnb] at HA2
          obtain ⟨z, hz⟩ : ∃ z, z = permP p ⟨na, nb, qc⟩ := ⟨_, rfl⟩
          have HX := Lib.hid (show ∀ w, Calls Tryz.prog 159 #[.int .u64 p, .agg #[.int .u64 (na : Int), .int .u64 (nb : Int), .int .u64 (qc : Int)]] w fun e w' => e = .returned (.agg #[.int .u64 (z.a : Int), .int .u64 (z.b : Int), .int .u64 (z.c : Int)]) ∧ Below w.heap.size w w' from fun w => by rw [hz]; exact HP.out ⟨na, nb, qc⟩ w)
          have HZ := Lib.hid (show absP p (l.drop (i + 2)) z = fin by rw [hz]; rw [hna, hnb]; exact HIF.out)
          clear hz
          clear HIF hna hnb
          have cs := ks.cell
          have ls := ks.lt
          have cl2H := Lib.hid cl2
          clear cl2
          go_wp2_with fail
          refine wpGO_begin (Later) (later_moves) [9] [9] [0, 1, 2, 3, 4, 5, 6, 7, 8, 9] (by kernel_rfl) (by kernel_rfl) ?_
          refine wpGO_start (later_moves) ?_
          intro Wc hacc
          repeat (first | (refine wpGO_skip (later_moves) rfl rfl rfl rfl (fun _ _ _ h => h) ?_ ; simp only [Act.put, List.setIfInBounds_toArray, List.set_cons_zero, List.set_cons_succ]) | (refine wpGO_light (v := ?_) (later_moves) rfl rfl rfl rfl (fun _ _ _ h => h) ?_ ?_ ; rotate_left ; (· (intro w' hR ; (first | have hcells := later_cellsD ((later_moves).trans _ _ _ hacc hR) | skip) ; go_simp ; try with_reducible rfl)) ; simp only [Act.put, List.setIfInBounds_toArray, List.set_cons_zero, List.set_cons_succ]) | (refine wpGO_free (v := ?_) rfl rfl rfl rfl (fun _ _ _ h => h) ?_ ?_ ; rotate_left ; (· (intro w' ; go_simp ; try with_reducible rfl)) ; simp only [Act.put, List.setIfInBounds_toArray, List.set_cons_zero, List.set_cons_succ]))
          refine wpGO_call (later_moves) rfl rfl rfl rfl (fun _ _ _ h => h) (fun _ => by go_simp <;> rfl) (fun w' hR => HA1.out _) ?_
          simp only [Act.put, List.setIfInBounds_toArray, List.set_cons_zero, List.set_cons_succ]
          repeat (first | (refine wpGO_skip (later_moves) rfl rfl rfl rfl (fun _ _ _ h => h) ?_ ; simp only [Act.put, List.setIfInBounds_toArray, List.set_cons_zero, List.set_cons_succ]) | (refine wpGO_light (v := ?_) (later_moves) rfl rfl rfl rfl (fun _ _ _ h => h) ?_ ?_ ; rotate_left ; (· (intro w' hR ; (first | have hcells := later_cellsD ((later_moves).trans _ _ _ hacc hR) | skip) ; go_simp ; try with_reducible rfl)) ; simp only [Act.put, List.setIfInBounds_toArray, List.set_cons_zero, List.set_cons_succ]) | (refine wpGO_free (v := ?_) rfl rfl rfl rfl (fun _ _ _ h => h) ?_ ?_ ; rotate_left ; (· (intro w' ; go_simp ; try with_reducible rfl)) ; simp only [Act.put, List.setIfInBounds_toArray, List.set_cons_zero, List.set_cons_succ]))
          refine wpGO_heavy rfl rfl rfl rfl ?_
          intro wh hRh
          replace hacc := (later_moves).trans _ _ _ hacc hRh
          replace kr := kr.drew.below hacc kr.lt
          replace ks := ks.drew.below hacc ks.lt
          replace hb0 := below_chain hb0.drew hacc
          clear cs ls hacc hRh cl
          have c2 := ks.cell
          have f2 := ks.frozen
          go_simp
          refine ⟨fun h => Bool.noConfusion h, ?_⟩
          have hg : wh.grownBy (wh.setCell ⟨g, 0, none⟩ (.int .u64 (na : Int))) (some g) := grown_setCell' (p := ⟨g, 0, none⟩) (grown_refl' wh _) (.inl rfl) _
          replace ks := ks.set_ 0 (.int .u64 (na : Int))
          simp at ks
          replace kr := kr.grown hg (fun e => by have := Option.some.inj e; omega)
          replace hb0 := hb0.trans (below_of_only hg hb0.size (by omega))
          clear hg c2 f2
          generalize wh.setCell _ _ = Wf0 at ks kr hb0 ⊢
          refine wpGO_doneP rfl ?_
          have cl2 : Wf0.cell? ⟨bb, bq + i1, none⟩ = some (.int .u64 (y : Int)) := by obtain ⟨b3, q3, e3, -, h3⟩ := lw_get (HRD.out.below hb0) HI2.out; have e4 := Option.some.inj e3; injection e4 with e5 e6; subst e5 e6; rw [h3, HI1E.out, HY.out]
          have hbl2 : bb < Wf0.heap.size := World.block_lt_of_cell? _ _ cl2
          have cs := ks.cell
          have ls := ks.lt
          go_wp2_with fail
          refine wpGO_begin (Later) (later_moves) [10] [10] [0, 1, 2, 3, 4, 5, 6, 7, 8, 9, 10] (by kernel_rfl) (by kernel_rfl) ?_
          refine wpGO_start (later_moves) ?_
          intro Wc hacc
          repeat (first | (refine wpGO_skip (later_moves) rfl rfl rfl rfl (fun _ _ _ h => h) ?_ ; simp only [Act.put, List.setIfInBounds_toArray, List.set_cons_zero, List.set_cons_succ]) | (refine wpGO_light (v := ?_) (later_moves) rfl rfl rfl rfl (fun _ _ _ h => h) ?_ ?_ ; rotate_left ; (· (intro w' hR ; (first | have hcells := later_cellsD ((later_moves).trans _ _ _ hacc hR) | skip) ; go_simp ; try with_reducible rfl)) ; simp only [Act.put, List.setIfInBounds_toArray, List.set_cons_zero, List.set_cons_succ]) | (refine wpGO_free (v := ?_) rfl rfl rfl rfl (fun _ _ _ h => h) ?_ ?_ ; rotate_left ; (· (intro w' ; go_simp ; try with_reducible rfl)) ; simp only [Act.put, List.setIfInBounds_toArray, List.set_cons_zero, List.set_cons_succ]))
          refine wpGO_call (later_moves) rfl rfl rfl rfl (fun _ _ _ h => h) (fun _ => by go_simp <;> rfl) (fun w' hR => HA2.out _) ?_
          simp only [Act.put, List.setIfInBounds_toArray, List.set_cons_zero, List.set_cons_succ]
          repeat (first | (refine wpGO_skip (later_moves) rfl rfl rfl rfl (fun _ _ _ h => h) ?_ ; simp only [Act.put, List.setIfInBounds_toArray, List.set_cons_zero, List.set_cons_succ]) | (refine wpGO_light (v := ?_) (later_moves) rfl rfl rfl rfl (fun _ _ _ h => h) ?_ ?_ ; rotate_left ; (· (intro w' hR ; (first | have hcells := later_cellsD ((later_moves).trans _ _ _ hacc hR) | skip) ; go_simp ; try with_reducible rfl)) ; simp only [Act.put, List.setIfInBounds_toArray, List.set_cons_zero, List.set_cons_succ]) | (refine wpGO_free (v := ?_) rfl rfl rfl rfl (fun _ _ _ h => h) ?_ ?_ ; rotate_left ; (· (intro w' ; go_simp ; try with_reducible rfl)) ; simp only [Act.put, List.setIfInBounds_toArray, List.set_cons_zero, List.set_cons_succ]))
          refine wpGO_heavy rfl rfl rfl rfl ?_
          intro wh hRh
          replace hacc := (later_moves).trans _ _ _ hacc hRh
          replace kr := kr.drew.below hacc kr.lt
          replace ks := ks.drew.below hacc ks.lt
          replace hb0 := below_chain hb0.drew hacc
          clear cs ls hacc hRh cl2
          have c2 := ks.cell
          have f2 := ks.frozen
          go_simp
          refine ⟨fun h => Bool.noConfusion h, ?_⟩
          have hg : wh.grownBy (wh.setCell ⟨g, 1, none⟩ (.int .u64 (nb : Int))) (some g) := grown_setCell' (p := ⟨g, 1, none⟩) (grown_refl' wh _) (.inl rfl) _
          replace ks := ks.set_ 1 (.int .u64 (nb : Int))
          simp at ks
          replace kr := kr.grown hg (fun e => by have := Option.some.inj e; omega)
          replace hb0 := hb0.trans (below_of_only hg hb0.size (by omega))
          clear hg c2 f2
          generalize wh.setCell _ _ = Wf1 at ks kr hb0 ⊢
          refine wpGO_doneP rfl ?_
          have cs := ks.cell
          go_wp2_with fail
          refine (HX.out _).mono ?_
          rintro e w5 ⟨rfl, hb5⟩
          replace kr := kr.below hb5 kr.lt
          replace ks := ks.below hb5 ks.lt
          replace hb0 := below_chain hb0 hb5
          clear cs hb5
          have cs := ks.cell
          have fs := ks.frozen
          go_wp2_with fail
          have hg := set3_grown (w := w5) (g := g) (.int .u64 (z.a : Int)) (.int .u64 (z.b : Int)) (.int .u64 (z.c : Int))
          have kz := set3_blk ks (.int .u64 (z.a : Int)) (.int .u64 (z.b : Int)) (.int .u64 (z.c : Int))
          replace kr := kr.grown hg (fun e => by have := Option.some.inj e; omega)
          replace hb0 := hb0.trans (below_of_only hg hb0.size (by omega))
          clear hg cs fs ks
          generalize ((World.setCell w5 _ _).setCell _ _).setCell _ _ = Wz at kz kr hb0 ⊢
          go_roundw
          case rel => exact ⟨i + 2, z, by omega, by go_num, kr, kz, hb0, HZ.out⟩
          case measure => simp [intOf]; omega
        · have hi3 : i + 1 = l.length := by omega
          have HD := Lib.hid (drop_one hi3)
          have g3 : ¬ ((i : Int) + 1 < (l.length : Int)) := by omega
          subst eA
          have HIF := Lib.hid (show absP p [l.getD i 0] ⟨qa, qb, qc⟩ = fin by rw [← HD.out]; exact HI.out)
          have HDN := Lib.hid (show l.drop (i + 2) = [] from List.drop_of_length_le (by omega))
          clear HD hlt hrd hx
          generalize l.getD i 0 = x at *
          have HA1 := Lib.hid (fun w => HA.out qa x w)
          obtain ⟨na, hna⟩ : ∃ na, na = (qa + x) % p := ⟨_, rfl⟩
          rw [← hna] at HA1
          obtain ⟨z, hz⟩ : ∃ z, z = permP p ⟨na, qb, qc⟩ := ⟨_, rfl⟩
          have HX := Lib.hid (show ∀ w, Calls Tryz.prog 159 #[.int .u64 p, .agg #[.int .u64 (na : Int), .int .u64 (qb : Int), .int .u64 (qc : Int)]] w fun e w' => e = .returned (.agg #[.int .u64 (z.a : Int), .int .u64 (z.b : Int), .int .u64 (z.c : Int)]) ∧ Below w.heap.size w w' from fun w => by rw [hz]; exact HP.out ⟨na, qb, qc⟩ w)
          have HZ := Lib.hid (show absP p (l.drop (i + 2)) z = fin by rw [hz]; rw [HDN.out, hna]; exact HIF.out)
          clear hz
          clear HIF HDN hi2 hi3 hna
          have cs := ks.cell
          have ls := ks.lt
          go_wp2_with fail
          refine wpGO_begin (Later) (later_moves) [9] [9] [0, 1, 2, 3, 4, 5, 6, 7, 8, 9] (by kernel_rfl) (by kernel_rfl) ?_
          refine wpGO_start (later_moves) ?_
          intro Wc hacc
          repeat (first | (refine wpGO_skip (later_moves) rfl rfl rfl rfl (fun _ _ _ h => h) ?_ ; simp only [Act.put, List.setIfInBounds_toArray, List.set_cons_zero, List.set_cons_succ]) | (refine wpGO_light (v := ?_) (later_moves) rfl rfl rfl rfl (fun _ _ _ h => h) ?_ ?_ ; rotate_left ; (· (intro w' hR ; (first | have hcells := later_cellsD ((later_moves).trans _ _ _ hacc hR) | skip) ; go_simp ; try with_reducible rfl)) ; simp only [Act.put, List.setIfInBounds_toArray, List.set_cons_zero, List.set_cons_succ]) | (refine wpGO_free (v := ?_) rfl rfl rfl rfl (fun _ _ _ h => h) ?_ ?_ ; rotate_left ; (· (intro w' ; go_simp ; try with_reducible rfl)) ; simp only [Act.put, List.setIfInBounds_toArray, List.set_cons_zero, List.set_cons_succ]))
          refine wpGO_call (later_moves) rfl rfl rfl rfl (fun _ _ _ h => h) (fun _ => by go_simp <;> rfl) (fun w' hR => HA1.out _) ?_
          simp only [Act.put, List.setIfInBounds_toArray, List.set_cons_zero, List.set_cons_succ]
          repeat (first | (refine wpGO_skip (later_moves) rfl rfl rfl rfl (fun _ _ _ h => h) ?_ ; simp only [Act.put, List.setIfInBounds_toArray, List.set_cons_zero, List.set_cons_succ]) | (refine wpGO_light (v := ?_) (later_moves) rfl rfl rfl rfl (fun _ _ _ h => h) ?_ ?_ ; rotate_left ; (· (intro w' hR ; (first | have hcells := later_cellsD ((later_moves).trans _ _ _ hacc hR) | skip) ; go_simp ; try with_reducible rfl)) ; simp only [Act.put, List.setIfInBounds_toArray, List.set_cons_zero, List.set_cons_succ]) | (refine wpGO_free (v := ?_) rfl rfl rfl rfl (fun _ _ _ h => h) ?_ ?_ ; rotate_left ; (· (intro w' ; go_simp ; try with_reducible rfl)) ; simp only [Act.put, List.setIfInBounds_toArray, List.set_cons_zero, List.set_cons_succ]))
          refine wpGO_heavy rfl rfl rfl rfl ?_
          intro wh hRh
          replace hacc := (later_moves).trans _ _ _ hacc hRh
          replace kr := kr.drew.below hacc kr.lt
          replace ks := ks.drew.below hacc ks.lt
          replace hb0 := below_chain hb0.drew hacc
          clear cs ls hacc hRh cl
          have c2 := ks.cell
          have f2 := ks.frozen
          go_simp
          refine ⟨fun h => Bool.noConfusion h, ?_⟩
          have hg : wh.grownBy (wh.setCell ⟨g, 0, none⟩ (.int .u64 (na : Int))) (some g) := grown_setCell' (p := ⟨g, 0, none⟩) (grown_refl' wh _) (.inl rfl) _
          replace ks := ks.set_ 0 (.int .u64 (na : Int))
          simp at ks
          replace kr := kr.grown hg (fun e => by have := Option.some.inj e; omega)
          replace hb0 := hb0.trans (below_of_only hg hb0.size (by omega))
          clear hg c2 f2
          generalize wh.setCell _ _ = Wf0 at ks kr hb0 ⊢
          refine wpGO_doneP rfl ?_
          have cs := ks.cell
          go_wp2_with fail
          refine (HX.out _).mono ?_
          rintro e w5 ⟨rfl, hb5⟩
          replace kr := kr.below hb5 kr.lt
          replace ks := ks.below hb5 ks.lt
          replace hb0 := below_chain hb0 hb5
          clear cs hb5
          have cs := ks.cell
          have fs := ks.frozen
          go_wp2_with fail
          have hg := set3_grown (w := w5) (g := g) (.int .u64 (z.a : Int)) (.int .u64 (z.b : Int)) (.int .u64 (z.c : Int))
          have kz := set3_blk ks (.int .u64 (z.a : Int)) (.int .u64 (z.b : Int)) (.int .u64 (z.c : Int))
          replace kr := kr.grown hg (fun e => by have := Option.some.inj e; omega)
          replace hb0 := hb0.trans (below_of_only hg hb0.size (by omega))
          clear hg cs fs ks
          generalize ((World.setCell w5 _ _).setCell _ _).setCell _ _ = Wz at kz kr hb0 ⊢
          go_roundw
          case rel => exact ⟨i + 2, z, by omega, by go_num, kr, kz, hb0, HZ.out⟩
          case measure => simp [intOf]; omega
      · by_cases hi2 : i + 1 < l.length
        · obtain ⟨bb2, bq2, eA2, hbl2, cl2⟩ := lw_get (hrd.below hb0) hi2
          have HD := Lib.hid (drop_two hi2)
          obtain ⟨i1, hi1e⟩ : ∃ i1, i1 = i + 1 := ⟨_, rfl⟩
          have e1 : (i : Int) + 1 = (i1 : Int) := by omega
          have e2 : IntKind.i64.wrap ((i : Int) + 1) = (i1 : Int) := by rw [IntKind.wrap_i64]; omega
          have e3 : IntKind.i64.wrap (i1 : Int) = (i1 : Int) := by rw [IntKind.wrap_i64]; omega
          have g4 : (0 : Int) ≤ (i1 : Int) := by omega
          have g3 : (i1 : Int) < (l.length : Int) := by omega
          have HI2 := Lib.hid (show i1 < l.length by omega)
          have HI1E := Lib.hid hi1e
          rw [eA] at eA2
          have eA3 := Option.some.inj eA2
          injection eA3 with e5 e6
          subst e5 e6
          subst eA
          clear eA2 hbl2
          have HIF := Lib.hid (show absP p (l.getD i 0 :: l.getD (i + 1) 0 :: l.drop (i + 2)) ⟨qa, qb, qc⟩ = fin by rw [← HD.out]; exact HI.out)
          clear HD hlt hrd hi2 hx hi1e
          obtain ⟨y, hy⟩ : ∃ y, y = l.getD (i + 1) 0 := ⟨_, rfl⟩
          generalize l.getD i 0 = x at *
          rw [← hy] at HIF cl2
          have HY := Lib.hid hy.symm
          clear hy
          have HA1 := Lib.hid (fun w => HA.out qa x w)
          have HA2 := Lib.hid (fun w => HA.out qb y w)
          obtain ⟨na, hna⟩ : ∃ na, na = (qa + x) % p := ⟨_, rfl⟩
          obtain ⟨nb, hnb⟩ : ∃ nb, nb = (qb + y) % p := ⟨_, rfl⟩
          rw [← hna] at HA1
          rw [← hnb] at HA2
          obtain ⟨z, hz⟩ : ∃ z, z = permP p ⟨na, nb, qc⟩ := ⟨_, rfl⟩
          have HX := Lib.hid (show ∀ w, Calls Tryz.prog 159 #[.int .u64 p, .agg #[.int .u64 (na : Int), .int .u64 (nb : Int), .int .u64 (qc : Int)]] w fun e w' => e = .returned (.agg #[.int .u64 (z.a : Int), .int .u64 (z.b : Int), .int .u64 (z.c : Int)]) ∧ Below w.heap.size w w' from fun w => by rw [hz]; exact HP.out ⟨na, nb, qc⟩ w)
          have HZ := Lib.hid (show absP p (l.drop (i + 2)) z = fin by rw [hz]; rw [hna, hnb]; exact HIF.out)
          clear hz
          clear HIF hna hnb
          have cs := ks.cell
          have ls := ks.lt
          have cl2H := Lib.hid cl2
          clear cl2
          go_wp2_with fail
          refine wpGO_begin (Later) (later_moves) [9] [9] [0, 1, 2, 3, 4, 5, 6, 7, 8, 9] (by kernel_rfl) (by kernel_rfl) ?_
          refine wpGO_start (later_moves) ?_
          intro Wc hacc
          repeat (first | (refine wpGO_skip (later_moves) rfl rfl rfl rfl (fun _ _ _ h => h) ?_ ; simp only [Act.put, List.setIfInBounds_toArray, List.set_cons_zero, List.set_cons_succ]) | (refine wpGO_light (v := ?_) (later_moves) rfl rfl rfl rfl (fun _ _ _ h => h) ?_ ?_ ; rotate_left ; (· (intro w' hR ; (first | have hcells := later_cellsD ((later_moves).trans _ _ _ hacc hR) | skip) ; go_simp ; try with_reducible rfl)) ; simp only [Act.put, List.setIfInBounds_toArray, List.set_cons_zero, List.set_cons_succ]) | (refine wpGO_free (v := ?_) rfl rfl rfl rfl (fun _ _ _ h => h) ?_ ?_ ; rotate_left ; (· (intro w' ; go_simp ; try with_reducible rfl)) ; simp only [Act.put, List.setIfInBounds_toArray, List.set_cons_zero, List.set_cons_succ]))
          refine wpGO_call (later_moves) rfl rfl rfl rfl (fun _ _ _ h => h) (fun _ => by go_simp <;> rfl) (fun w' hR => HA1.out _) ?_
          simp only [Act.put, List.setIfInBounds_toArray, List.set_cons_zero, List.set_cons_succ]
          repeat (first | (refine wpGO_skip (later_moves) rfl rfl rfl rfl (fun _ _ _ h => h) ?_ ; simp only [Act.put, List.setIfInBounds_toArray, List.set_cons_zero, List.set_cons_succ]) | (refine wpGO_light (v := ?_) (later_moves) rfl rfl rfl rfl (fun _ _ _ h => h) ?_ ?_ ; rotate_left ; (· (intro w' hR ; (first | have hcells := later_cellsD ((later_moves).trans _ _ _ hacc hR) | skip) ; go_simp ; try with_reducible rfl)) ; simp only [Act.put, List.setIfInBounds_toArray, List.set_cons_zero, List.set_cons_succ]) | (refine wpGO_free (v := ?_) rfl rfl rfl rfl (fun _ _ _ h => h) ?_ ?_ ; rotate_left ; (· (intro w' ; go_simp ; try with_reducible rfl)) ; simp only [Act.put, List.setIfInBounds_toArray, List.set_cons_zero, List.set_cons_succ]))
          refine wpGO_heavy rfl rfl rfl rfl ?_
          intro wh hRh
          replace hacc := (later_moves).trans _ _ _ hacc hRh
          replace kr := kr.drew.below hacc kr.lt
          replace ks := ks.drew.below hacc ks.lt
          replace hb0 := below_chain hb0.drew hacc
          clear cs ls hacc hRh cl
          have c2 := ks.cell
          have f2 := ks.frozen
          go_simp
          refine ⟨fun h => Bool.noConfusion h, ?_⟩
          have hg : wh.grownBy (wh.setCell ⟨g, 0, none⟩ (.int .u64 (na : Int))) (some g) := grown_setCell' (p := ⟨g, 0, none⟩) (grown_refl' wh _) (.inl rfl) _
          replace ks := ks.set_ 0 (.int .u64 (na : Int))
          simp at ks
          replace kr := kr.grown hg (fun e => by have := Option.some.inj e; omega)
          replace hb0 := hb0.trans (below_of_only hg hb0.size (by omega))
          clear hg c2 f2
          generalize wh.setCell _ _ = Wf0 at ks kr hb0 ⊢
          refine wpGO_doneP rfl ?_
          have cl2 : Wf0.cell? ⟨bb, bq + i1, none⟩ = some (.int .u64 (y : Int)) := by obtain ⟨b3, q3, e3, -, h3⟩ := lw_get (HRD.out.below hb0) HI2.out; have e4 := Option.some.inj e3; injection e4 with e5 e6; subst e5 e6; rw [h3, HI1E.out, HY.out]
          have hbl2 : bb < Wf0.heap.size := World.block_lt_of_cell? _ _ cl2
          have cs := ks.cell
          have ls := ks.lt
          go_wp2_with fail
          refine wpGO_begin (Later) (later_moves) [10] [10] [0, 1, 2, 3, 4, 5, 6, 7, 8, 9, 10] (by kernel_rfl) (by kernel_rfl) ?_
          refine wpGO_start (later_moves) ?_
          intro Wc hacc
          repeat (first | (refine wpGO_skip (later_moves) rfl rfl rfl rfl (fun _ _ _ h => h) ?_ ; simp only [Act.put, List.setIfInBounds_toArray, List.set_cons_zero, List.set_cons_succ]) | (refine wpGO_light (v := ?_) (later_moves) rfl rfl rfl rfl (fun _ _ _ h => h) ?_ ?_ ; rotate_left ; (· (intro w' hR ; (first | have hcells := later_cellsD ((later_moves).trans _ _ _ hacc hR) | skip) ; go_simp ; try with_reducible rfl)) ; simp only [Act.put, List.setIfInBounds_toArray, List.set_cons_zero, List.set_cons_succ]) | (refine wpGO_free (v := ?_) rfl rfl rfl rfl (fun _ _ _ h => h) ?_ ?_ ; rotate_left ; (· (intro w' ; go_simp ; try with_reducible rfl)) ; simp only [Act.put, List.setIfInBounds_toArray, List.set_cons_zero, List.set_cons_succ]))
          refine wpGO_call (later_moves) rfl rfl rfl rfl (fun _ _ _ h => h) (fun _ => by go_simp <;> rfl) (fun w' hR => HA2.out _) ?_
          simp only [Act.put, List.setIfInBounds_toArray, List.set_cons_zero, List.set_cons_succ]
          repeat (first | (refine wpGO_skip (later_moves) rfl rfl rfl rfl (fun _ _ _ h => h) ?_ ; simp only [Act.put, List.setIfInBounds_toArray, List.set_cons_zero, List.set_cons_succ]) | (refine wpGO_light (v := ?_) (later_moves) rfl rfl rfl rfl (fun _ _ _ h => h) ?_ ?_ ; rotate_left ; (· (intro w' hR ; (first | have hcells := later_cellsD ((later_moves).trans _ _ _ hacc hR) | skip) ; go_simp ; try with_reducible rfl)) ; simp only [Act.put, List.setIfInBounds_toArray, List.set_cons_zero, List.set_cons_succ]) | (refine wpGO_free (v := ?_) rfl rfl rfl rfl (fun _ _ _ h => h) ?_ ?_ ; rotate_left ; (· (intro w' ; go_simp ; try with_reducible rfl)) ; simp only [Act.put, List.setIfInBounds_toArray, List.set_cons_zero, List.set_cons_succ]))
          refine wpGO_heavy rfl rfl rfl rfl ?_
          intro wh hRh
          replace hacc := (later_moves).trans _ _ _ hacc hRh
          replace kr := kr.drew.below hacc kr.lt
          replace ks := ks.drew.below hacc ks.lt
          replace hb0 := below_chain hb0.drew hacc
          clear cs ls hacc hRh cl2
          have c2 := ks.cell
          have f2 := ks.frozen
          go_simp
          refine ⟨fun h => Bool.noConfusion h, ?_⟩
          have hg : wh.grownBy (wh.setCell ⟨g, 1, none⟩ (.int .u64 (nb : Int))) (some g) := grown_setCell' (p := ⟨g, 1, none⟩) (grown_refl' wh _) (.inl rfl) _
          replace ks := ks.set_ 1 (.int .u64 (nb : Int))
          simp at ks
          replace kr := kr.grown hg (fun e => by have := Option.some.inj e; omega)
          replace hb0 := hb0.trans (below_of_only hg hb0.size (by omega))
          clear hg c2 f2
          generalize wh.setCell _ _ = Wf1 at ks kr hb0 ⊢
          refine wpGO_doneP rfl ?_
          have cs := ks.cell
          go_wp2_with fail
          refine (HX.out _).mono ?_
          rintro e w5 ⟨rfl, hb5⟩
          replace kr := kr.below hb5 kr.lt
          replace ks := ks.below hb5 ks.lt
          replace hb0 := below_chain hb0 hb5
          clear cs hb5
          have cs := ks.cell
          have fs := ks.frozen
          go_wp2_with fail
          have hg := set3_grown (w := w5) (g := g) (.int .u64 (z.a : Int)) (.int .u64 (z.b : Int)) (.int .u64 (z.c : Int))
          have kz := set3_blk ks (.int .u64 (z.a : Int)) (.int .u64 (z.b : Int)) (.int .u64 (z.c : Int))
          replace kr := kr.grown hg (fun e => by have := Option.some.inj e; omega)
          replace hb0 := hb0.trans (below_of_only hg hb0.size (by omega))
          clear hg cs fs ks
          generalize ((World.setCell w5 _ _).setCell _ _).setCell _ _ = Wz at kz kr hb0 ⊢
          go_roundw
          case rel => exact ⟨i + 2, z, by omega, by go_num, kr, kz, hb0, HZ.out⟩
          case measure => simp [intOf]; omega
        · have hi3 : i + 1 = l.length := by omega
          have HD := Lib.hid (drop_one hi3)
          have g3 : ¬ ((i : Int) + 1 < (l.length : Int)) := by omega
          subst eA
          have HIF := Lib.hid (show absP p [l.getD i 0] ⟨qa, qb, qc⟩ = fin by rw [← HD.out]; exact HI.out)
          have HDN := Lib.hid (show l.drop (i + 2) = [] from List.drop_of_length_le (by omega))
          clear HD hlt hrd hx
          generalize l.getD i 0 = x at *
          have HA1 := Lib.hid (fun w => HA.out qa x w)
          obtain ⟨na, hna⟩ : ∃ na, na = (qa + x) % p := ⟨_, rfl⟩
          rw [← hna] at HA1
          obtain ⟨z, hz⟩ : ∃ z, z = permP p ⟨na, qb, qc⟩ := ⟨_, rfl⟩
          have HX := Lib.hid (show ∀ w, Calls Tryz.prog 159 #[.int .u64 p, .agg #[.int .u64 (na : Int), .int .u64 (qb : Int), .int .u64 (qc : Int)]] w fun e w' => e = .returned (.agg #[.int .u64 (z.a : Int), .int .u64 (z.b : Int), .int .u64 (z.c : Int)]) ∧ Below w.heap.size w w' from fun w => by rw [hz]; exact HP.out ⟨na, qb, qc⟩ w)
          have HZ := Lib.hid (show absP p (l.drop (i + 2)) z = fin by rw [hz]; rw [HDN.out, hna]; exact HIF.out)
          clear hz
          clear HIF HDN hi2 hi3 hna
          have cs := ks.cell
          have ls := ks.lt
          go_wp2_with fail
          refine wpGO_begin (Later) (later_moves) [9] [9] [0, 1, 2, 3, 4, 5, 6, 7, 8, 9] (by kernel_rfl) (by kernel_rfl) ?_
          refine wpGO_start (later_moves) ?_
          intro Wc hacc
          repeat (first | (refine wpGO_skip (later_moves) rfl rfl rfl rfl (fun _ _ _ h => h) ?_ ; simp only [Act.put, List.setIfInBounds_toArray, List.set_cons_zero, List.set_cons_succ]) | (refine wpGO_light (v := ?_) (later_moves) rfl rfl rfl rfl (fun _ _ _ h => h) ?_ ?_ ; rotate_left ; (· (intro w' hR ; (first | have hcells := later_cellsD ((later_moves).trans _ _ _ hacc hR) | skip) ; go_simp ; try with_reducible rfl)) ; simp only [Act.put, List.setIfInBounds_toArray, List.set_cons_zero, List.set_cons_succ]) | (refine wpGO_free (v := ?_) rfl rfl rfl rfl (fun _ _ _ h => h) ?_ ?_ ; rotate_left ; (· (intro w' ; go_simp ; try with_reducible rfl)) ; simp only [Act.put, List.setIfInBounds_toArray, List.set_cons_zero, List.set_cons_succ]))
          refine wpGO_call (later_moves) rfl rfl rfl rfl (fun _ _ _ h => h) (fun _ => by go_simp <;> rfl) (fun w' hR => HA1.out _) ?_
          simp only [Act.put, List.setIfInBounds_toArray, List.set_cons_zero, List.set_cons_succ]
          repeat (first | (refine wpGO_skip (later_moves) rfl rfl rfl rfl (fun _ _ _ h => h) ?_ ; simp only [Act.put, List.setIfInBounds_toArray, List.set_cons_zero, List.set_cons_succ]) | (refine wpGO_light (v := ?_) (later_moves) rfl rfl rfl rfl (fun _ _ _ h => h) ?_ ?_ ; rotate_left ; (· (intro w' hR ; (first | have hcells := later_cellsD ((later_moves).trans _ _ _ hacc hR) | skip) ; go_simp ; try with_reducible rfl)) ; simp only [Act.put, List.setIfInBounds_toArray, List.set_cons_zero, List.set_cons_succ]) | (refine wpGO_free (v := ?_) rfl rfl rfl rfl (fun _ _ _ h => h) ?_ ?_ ; rotate_left ; (· (intro w' ; go_simp ; try with_reducible rfl)) ; simp only [Act.put, List.setIfInBounds_toArray, List.set_cons_zero, List.set_cons_succ]))
          refine wpGO_heavy rfl rfl rfl rfl ?_
          intro wh hRh
          replace hacc := (later_moves).trans _ _ _ hacc hRh
          replace kr := kr.drew.below hacc kr.lt
          replace ks := ks.drew.below hacc ks.lt
          replace hb0 := below_chain hb0.drew hacc
          clear cs ls hacc hRh cl
          have c2 := ks.cell
          have f2 := ks.frozen
          go_simp
          refine ⟨fun h => Bool.noConfusion h, ?_⟩
          have hg : wh.grownBy (wh.setCell ⟨g, 0, none⟩ (.int .u64 (na : Int))) (some g) := grown_setCell' (p := ⟨g, 0, none⟩) (grown_refl' wh _) (.inl rfl) _
          replace ks := ks.set_ 0 (.int .u64 (na : Int))
          simp at ks
          replace kr := kr.grown hg (fun e => by have := Option.some.inj e; omega)
          replace hb0 := hb0.trans (below_of_only hg hb0.size (by omega))
          clear hg c2 f2
          generalize wh.setCell _ _ = Wf0 at ks kr hb0 ⊢
          refine wpGO_doneP rfl ?_
          have cs := ks.cell
          go_wp2_with fail
          refine (HX.out _).mono ?_
          rintro e w5 ⟨rfl, hb5⟩
          replace kr := kr.below hb5 kr.lt
          replace ks := ks.below hb5 ks.lt
          replace hb0 := below_chain hb0 hb5
          clear cs hb5
          have cs := ks.cell
          have fs := ks.frozen
          go_wp2_with fail
          have hg := set3_grown (w := w5) (g := g) (.int .u64 (z.a : Int)) (.int .u64 (z.b : Int)) (.int .u64 (z.c : Int))
          have kz := set3_blk ks (.int .u64 (z.a : Int)) (.int .u64 (z.b : Int)) (.int .u64 (z.c : Int))
          replace kr := kr.grown hg (fun e => by have := Option.some.inj e; omega)
          replace hb0 := hb0.trans (below_of_only hg hb0.size (by omega))
          clear hg cs fs ks
          generalize ((World.setCell w5 _ _).setCell _ _).setCell _ _ = Wz at kz kr hb0 ⊢
          go_roundw
          case rel => exact ⟨i + 2, z, by omega, by go_num, kr, kz, hb0, HZ.out⟩
          case measure => simp [intOf]; omega
    · have HQ := Lib.hid (show (⟨qa, qb, qc⟩ : St) = fin by have := HI.out; rw [List.drop_of_length_le (by omega)] at this; exact this)
      have g2 : ¬ ((i : Int) < (l.length : Int)) := by omega
      have gi : ((i : Int) == 0) = false := by rw [beq_eq_false_iff_ne]; omega
      have cs := ks.cell
      have cr := kr.cell
      have fr := kr.frozen
      clear hrd hlt
      go_wp2_with fail
      have hg := set3_grown (w := wr) (g := w.heap.size) (.int .u64 (qa : Int)) (.int .u64 (qb : Int)) (.int .u64 (qc : Int))
      have kz := set3_blk kr (.int .u64 (qa : Int)) (.int .u64 (qb : Int)) (.int .u64 (qc : Int))
      clear cs cr fr kr ks
      generalize ((World.setCell wr _ _).setCell _ _).setCell _ _ = Wz at hg kz ⊢
      have cz := kz.cell
      exact bodyPost_ret (v := .agg #[.int .u64 (qa : Int), .int .u64 (qb : Int), .int .u64 (qc : Int)]) (by simp [results, Tryz.results158, go_sem, cz]) rfl ⟨by rw [← HQ.out]; rfl, hb0.trans (below_of_only hg hb0.size (Nat.le_refl _))⟩
theorem own_stay {w w' : World} {base B : Nat} {e : TypeId} {size : Nat} {v : Value} {n : Nat} {xs : List Value} (h : w.ownsRow base e size v n xs) (hg : w.grownBy w' (some B)) (hB : B < base) : w'.ownsRow base e size v n xs := by
  obtain ⟨h1, h2⟩ := h
  refine ⟨h1, ?_⟩
  rcases h2 with h2 | ⟨g, cap, cur, hv, hgb, hh, r⟩
  · exact Or.inl h2
  · exact Or.inr ⟨g, cap, cur, hv, hgb, by rw [hg.block g (Array.getElem?_eq_some_iff.1 hh).1 (fun e => by have := Option.some.inj e; omega)]; exact hh, r⟩
theorem range_snoc (f : Nat → Nat) (i : Nat) : (List.range i).map f ++ [f i] = (List.range (i + 1)).map f := by simp [List.range_succ]
set_option maxRecDepth 100000 in
set_option maxHeartbeats 1000000 in
theorem rSqueeze_any (p label : Nat) (A : Option Addr) (n c m : Nat) (l : List Nat) (w : World) (hp : okP p = true) (hl : RWd w [.slice A n c] l) (hne : 0 < l.length) (hlen : l.length ≤ 1000000) (hm : m ≤ 65536) :
    Calls Tryz.prog 140 #[.int .u64 p, .int .u64 label, .slice A n c, .int .i64 (m : Int)] w fun e w' => ∃ v, e = .returned v ∧ w'.ownsRow w.heap.size 22 1 v m (U64 ((List.range m).map (sqAt p (absorbP p label l)))) ∧ Below w.heap.size w w' := by
  obtain ⟨hp1, hp2⟩ := okP_lt hp
  have HV := Lib.hid (fun w => by have := rValidP_any p w hp2; rw [hp] at this; exact this)
  have HAb := Lib.hid (fun w' (hb : Below w.heap.size w w') => rAbsorb_any p label A n c l w' hp (kept_RWd _ _ _ _ hb hl) hne hlen)
  have HP := Lib.hid (fun s w => rPermute_any p s w hp)
  have g0 : ¬ ((m : Int) < 0) := by omega
  have g1 : (m : Int) ≤ 65536 := by omega
  clear hl hne hlen hp hp1 hp2
  generalize absorbP p label l = s at *
  go_enter Tryz.func140, Tryz.ntmps140
  go_wp2_with fail
  refine (HV.out _).mono ?_
  rintro e w1 ⟨rfl, hb1⟩
  go_wp2_with fail
  refine (HAb.out _ hb1).mono ?_
  rintro e w2 ⟨rfl, hb2⟩
  have hb0 := below_chain hb1 hb2
  have ev : s.val = .agg #[.int .u64 (s.a : Int), .int .u64 (s.b : Int), .int .u64 (s.c : Int)] := rfl
  rw [ev]
  have hal := (Below.refl w2.heap.size w2).alloc (Nat.le_refl _) (.cells #[.int .u64 (s.a : Int), .int .u64 (s.b : Int), .int .u64 (s.c : Int)] 166)
  have ks0 := Blk.new w2 166 #[.int .u64 (s.a : Int), .int .u64 (s.b : Int), .int .u64 (s.c : Int)]
  have hs2 := hb0.size
  replace hb0 := below_chain hb0 hal
  clear ev hb1 hb2 hal
  go_upto_region 4 with fail
  generalize w2.alloc _ = w3 at ks0 hb0 ⊢
  generalize w2.heap.size = gs at *
  have ks : Blk w3 gs 166 (perI p s (0 / 2)).cs := ks0
  clear ks0
  have hgs : gs < w3.heap.size := ks.lt
  go_wp2_with fail
  go_loopw [10, 11] (fun v y wr => ∃ i : Nat, i ≤ m ∧ y = .int .i64 (i : Int) ∧ Blk wr gs 166 (perI p s (i / 2)).cs ∧ wr.ownsRow w3.heap.size 22 1 v i (U64 ((List.range i).map (sqAt p s))) ∧ Below w.heap.size w wr ∧ w3.heap.size ≤ wr.heap.size) (fun _ y _ => m - (intOf y).toNat)
  case atStart => exact ⟨0, Nat.zero_le _, rfl, ks, ⟨rfl, .inl ⟨rfl, rfl⟩⟩, hb0, Nat.le_refl _⟩
  case round =>
    clear ks hb0
    obtain ⟨i, hi, rfl, ks, hown, hb0, hsz⟩ := hrel
    by_cases hlt : i < m
    · have g2 : (i : Int) < (m : Int) := by omega
      have g3 : (0 : Int) ≤ (i : Int) := by omega
      obtain ⟨sv, hsv⟩ : ∃ sv, sv = sqAt p s i := ⟨_, rfl⟩
      obtain ⟨j, hj⟩ : ∃ j, j = i % 2 := ⟨_, rfl⟩
      have hj3 : j < 3 := by omega
      have ej : (i : Int) % 2 = (j : Int) := by omega
      have ej2 : (i : Int).tmod 2 = (j : Int) := by rw [Int.tmod_eq_emod_of_nonneg (by omega)]; exact ej
      have HSQ := Lib.hid (show (perI p s (i / 2)).at_ j = sv by rw [hj, hsv]; rfl)
      have HRS := Lib.hid (show (List.range i).map (sqAt p s) ++ [sv] = (List.range (i + 1)).map (sqAt p s) by rw [hsv]; exact range_snoc _ _)
      have cj := ks.cell j
      rw [St.cs_at _ hj3, HSQ.out] at cj
      obtain ⟨q, hq⟩ : ∃ q, q = perI p s (i / 2) := ⟨_, rfl⟩
      rw [← hq] at ks
      have HQ := Lib.hid hq.symm
      have HJ := Lib.hid hj
      clear hsv hq hj
      go_wp2_with (at_builtin; refine wpl_append rfl _ _ rfl el_w rfl (hown.alloc _) rfl (rd_one _ _ _) (one_U64 [sv]) (by omega) (by simp; omega) ?_)
      intro v' wn hown' hgrow hblk
      have hal := (Below.refl wr.heap.size wr).alloc (Nat.le_refl _) (.cells #[.int .u64 (sv : Int)] 22)
      have hB := lw_grow (hown.alloc _) hgrow (by simp; omega)
      have hks := (ks.below hal ks.lt).below hB hgs
      replace hb0 := (below_on hb0 hal hb0.size).trans (hB.mono (by have := hb0.size; omega))
      have hszn : w3.heap.size ≤ wn.heap.size := by have := hgrow.size; simp at this; omega
      replace hown' : wn.ownsRow w3.heap.size 22 1 v' (i + 1) (U64 ((List.range (i + 1)).map (sqAt p s))) := lw_app (a := (List.range i).map (sqAt p s)) (b := [sv]) hown' HRS.out
      clear hown hgrow hblk hal hB ks cj hsz
      rcases (show j = 0 ∨ j = 1 by have := HJ.out; omega) with h0 | h1
      · have d3 : ((j : Int) == 1) = false := by rw [beq_eq_false_iff_ne]; omega
        have HH := Lib.hid (show i / 2 = (i + 1) / 2 by have := HJ.out; omega)
        rw [← HQ.out, HH.out] at hks
        clear h0
        go_wp2
        go_roundw
        case rel => exact ⟨i + 1, by omega, by go_num, hks, hown', hb0, hszn⟩
        case measure => simp [intOf]; omega
      · have d3 : ((j : Int) == 1) = true := by rw [beq_iff_eq]; omega
        have HH := Lib.hid (show (i + 1) / 2 = i / 2 + 1 by have := HJ.out; omega)
        obtain ⟨z, hz⟩ : ∃ z, z = permP p q := ⟨_, rfl⟩
        have HZ := Lib.hid (show perI p s ((i + 1) / 2) = z by rw [HH.out, perI, HQ.out, hz])
        have HX := Lib.hid (show ∀ w, Calls Tryz.prog 159 #[.int .u64 p, .agg #[.int .u64 (q.a : Int), .int .u64 (q.b : Int), .int .u64 (q.c : Int)]] w fun e w' => e = .returned (.agg #[.int .u64 (z.a : Int), .int .u64 (z.b : Int), .int .u64 (z.c : Int)]) ∧ Below w.heap.size w w' from fun w => by rw [hz]; exact HP.out q w)
        have ks2 : Blk wn gs 166 #[.int .u64 (q.a : Int), .int .u64 (q.b : Int), .int .u64 (q.c : Int)] := hks
        clear h1 hz hks
        have cs := ks2.cell
        go_wp2_with fail
        refine (HX.out _).mono ?_
        rintro e w5 ⟨rfl, hb5⟩
        replace ks2 := ks2.below hb5 ks2.lt
        replace hown' := own_below hown' hb5 (Nat.le_refl _)
        replace hb0 := below_chain hb0 hb5
        have hs5 := hb5.size
        clear cs hb5
        have cs := ks2.cell
        have fs := ks2.frozen
        go_wp2_with fail
        have hg := set3_grown (w := w5) (g := gs) (.int .u64 (z.a : Int)) (.int .u64 (z.b : Int)) (.int .u64 (z.c : Int))
        have ks : Blk _ gs 166 z.cs := set3_blk ks2 (.int .u64 (z.a : Int)) (.int .u64 (z.b : Int)) (.int .u64 (z.c : Int))
        replace hown' := own_stay hown' hg hgs
        replace hb0 := hb0.trans (below_of_only hg hb0.size (by omega))
        have hs6 := hg.size
        clear hg cs fs ks2
        go_roundw
        case rel => exact ⟨i + 1, by omega, by go_num, by rw [HZ.out]; exact ks, hown', hb0, by omega⟩
        case measure => simp [intOf]; omega
    · obtain rfl : i = m := by omega
      go_wp2
      go_ret
      exact ⟨_, rfl, own_base hown (by omega), hb0⟩
theorem rd_less {w : World} {A : Option Addr} {n k : Nat} {l : List Nat} (h : Rd w 1 A n (U64 l)) (hk : k ≤ n) : Rd w 1 A k (U64 (l.take k)) := by
  have hl : (U64 l).length = n * 1 := h.1
  refine ⟨by rw [len_U64] at hl ⊢; simp; omega, fun h0 => ?_⟩
  obtain ⟨ad, e, hc⟩ := h.2 (by omega)
  refine ⟨ad, e, fun j u hj => hc j u ?_⟩
  have : U64 (l.take k) = (U64 l).take k := by simp [U64, List.map_take]
  rw [this, List.getElem?_take] at hj
  split at hj
  · exact hj
  · cases hj
theorem trimZ_step {L : List Nat} {j : Nat} (hj : j < L.length) (h0 : L.getD j 0 = 0) : trimZ (L.take (j + 1)) = trimZ (L.take j) := by
  rw [lw_snoc L j hj, h0, trimZ_snoc0]
theorem trimZ_stop {L : List Nat} {j : Nat} (hj : j < L.length) (h0 : L.getD j 0 ≠ 0) : trimZ (L.take (j + 1)) = L.take (j + 1) := by
  rw [lw_snoc L j hj, trimZ_snoc h0]
set_option maxRecDepth 100000 in
set_option maxHeartbeats 1000000 in
theorem rTrim_any (p : Nat) (A : Option Addr) (n c : Nat) (l : List Nat) (w : World) (hp : okP p = true) (hl : RWd w [.slice A n c] l) (hn : n ≤ 100000) :
    Calls Tryz.prog 100 #[.int .u64 p, .slice A n c] w fun e w' => ∃ v, e = .returned v ∧ RWd w' [v] (trimP p l) ∧ Below w.heap.size w w' := by
  obtain ⟨rfl, h1, h2, hlt, hrd⟩ := lw_at hl
  obtain ⟨hp1, hp2⟩ := okP_lt hp
  have HA := Lib.hid (fun a w => rReduce_any p a w hp)
  have HM := Lib.hid (show ∀ x ∈ l.map (· % p), x < 18446744073709551616 from fun x hx => by obtain ⟨y, -, rfl⟩ := List.mem_map.1 hx; exact Nat.lt_trans (Nat.mod_lt _ (by omega)) hp2)
  have HT := Lib.hid (show trimP p l = trimZ (l.map (· % p)) from rfl)
  rw [HT.out]
  obtain ⟨L, hL⟩ : ∃ L, L = l.map (· % p) := ⟨_, rfl⟩
  have HLN := Lib.hid (show L.length = l.length by rw [hL]; simp)
  have HLG := Lib.hid (show ∀ k, L.getD k 0 = l.getD k 0 % p from fun k => by rw [hL]; exact map_mod_get p l k)
  rw [← hL] at HM ⊢
  clear hl h1 h2 hp hlt hp1 hp2 hL HT
  go_enter Tryz.func100, Tryz.ntmps100
  go_wp2_with fail
  go_loopw [5, 6] (fun v i wr => ∃ k : Nat, k ≤ l.length ∧ i = .int .i64 (k : Int) ∧ wr.ownsRow w.heap.size 22 1 v k (U64 (L.take k)) ∧ Below w.heap.size w wr) (fun _ i _ => l.length - (intOf i).toNat)
  case atStart => exact ⟨0, Nat.zero_le _, rfl, ⟨rfl, .inl ⟨rfl, rfl⟩⟩, Below.refl _ _⟩
  case round =>
    obtain ⟨k, hk, rfl, hown, hb⟩ := hrel
    by_cases hlt : k < l.length
    · obtain ⟨b, q, rfl, hbl, hc⟩ := lw_get (hrd.below hb) hlt
      have HF := Lib.hid (lw_snoc L k (by rw [HLN.out]; exact hlt)).symm
      have HG := Lib.hid (HLG.out k)
      obtain ⟨x, hx⟩ : ∃ x, x = l.getD k 0 := ⟨_, rfl⟩
      obtain ⟨z, hz⟩ : ∃ z, z = L.getD k 0 := ⟨_, rfl⟩
      rw [← hx] at hc HG
      rw [← hz] at HF HG
      have HA1 := Lib.hid (fun w => by have := HA.out x w; rw [← HG.out] at this; exact this)
      clear hx hz HG
      go_wp2_with fail
      refine (HA1.out _).mono ?_
      rintro e w2 ⟨rfl, hbx⟩
      replace hb := below_chain hb hbx
      replace hown := own_below hown hbx (Nat.le_refl _)
      clear hbx
      go_wp2_with (at_builtin; refine wpl_append rfl _ _ rfl el_w rfl (hown.alloc _) rfl (rd_one _ _ _) (one_U64 [z]) (by omega) (by simp; have := hb.size; omega) ?_)
      intro v' wn hown' hgrow hblk
      have hal := (Below.refl w2.heap.size w2).alloc (Nat.le_refl _) (.cells #[.int .u64 (z : Int)] 22)
      have hB := lw_grow (hown.alloc _) hgrow (by simp; have := hb.size; omega)
      replace hb := (below_on hb hal hb.size).trans hB
      replace hown : wn.ownsRow w.heap.size 22 1 v' (k + 1) (U64 (L.take (k + 1))) := lw_app (b := [z]) hown' HF.out
      clear hown' hgrow hblk hal hB
      go_wp2
      go_roundw
      case rel => exact ⟨k + 1, by omega, by go_num, hown, hb⟩
      case measure => simp [intOf]; omega
    · obtain rfl : k = l.length := by omega
      rw [List.take_of_length_le (by have := HLN.out; omega)] at hown
      obtain ⟨A1, c1, rfl, hc1, hc2, hrd1, -⟩ := own_form hown
      clear hown hrd
      have hrd2 : Rd wr 1 A1 L.length (U64 L) := by rw [HLN.out]; exact hrd1
      clear hrd1 hk hlt
      obtain ⟨w1, hw1⟩ : ∃ w1, w1 = wr := ⟨_, rfl⟩
      rw [← hw1] at hb hrd2
      have HW := Lib.hid hw1
      clear hw1
      go_wp2_with fail
      go_loopw [5] (fun v wr => ∃ k : Nat, k ≤ l.length ∧ v = .slice A1 k c1 ∧ Hid (trimZ (L.take k) = trimZ L) ∧ Below w1.heap.size w1 wr) (fun v _ => match v with | .slice _ n _ => n | _ => 0)
      case atStart => exact ⟨l.length, Nat.le_refl _, rfl, Lib.hid (by rw [List.take_of_length_le (by have := HLN.out; omega)]), by rw [HW.out]; exact Below.refl _ _⟩
      case round =>
        obtain ⟨k, hk, rfl, HZ, hb1⟩ := hrel
        rcases Nat.eq_zero_or_pos k with h0 | h0
        · subst h0
          go_wp2
          go_ret
          refine ⟨_, rfl, ?_, below_chain hb hb1⟩
          have hz : trimZ L = [] := by rw [← HZ.out]; rfl
          rw [hz]
          exact ⟨A1, 0, c1, rfl, Nat.zero_le _, hc2, ⟨rfl, fun h => absurd h (by omega)⟩, fun x hx => by cases hx⟩
        · obtain ⟨j, hj⟩ : ∃ j, j = k - 1 := ⟨_, rfl⟩
          have hjL : j < L.length := by have := HLN.out; omega
          obtain ⟨b, q, rfl, hbl, hc⟩ := lw_get (hrd2.below hb1) hjL
          obtain ⟨x, hx⟩ : ∃ x, x = L.getD j 0 := ⟨_, rfl⟩
          rw [← hx] at hc
          have HX := Lib.hid hx
          have HJ := Lib.hid hj
          have g1 : (0 : Int) < (k : Int) := by omega
          have g2 : (k : Int) - 1 = (j : Int) := by omega
          have g3 : IntKind.i64.wrap (j : Int) = (j : Int) := wr_i64 _ (by omega) (by omega)
          have g4 : (j : Int) < (k : Int) := by omega
          have g5 : j < k := by omega
          have g6 : j ≤ c1 := by omega
          have g7 : k ≤ c1 := by omega
          clear hx hj
          by_cases hx0 : x = 0
          · subst hx0
            go_wp2
            go_roundw
            case rel => exact ⟨j, by omega, rfl, Lib.hid (by rw [← HZ.out, show k = j + 1 by have := HJ.out; omega, trimZ_step hjL HX.out.symm]), hb1⟩
            case measure => simp; omega
          · have d0 : ((x : Int) == 0) = false := by rw [beq_eq_false_iff_ne]; omega
            go_wp2
            go_ret
            refine ⟨_, rfl, ?_, below_chain hb hb1⟩
            have hk1 : k = j + 1 := by have := HJ.out; omega
            have hz : trimZ L = L.take k := by rw [← HZ.out, hk1, trimZ_stop hjL (by rw [← HX.out]; exact hx0)]
            rw [hz]
            exact ⟨_, k, c1, rfl, g7, hc2, rd_less (hrd2.below hb1) (by have := HLN.out; omega), fun y hy => HM.out y (List.mem_of_mem_take hy)⟩
set_option maxRecDepth 100000 in
set_option maxHeartbeats 1000000 in
theorem rAt_any (A : Option Addr) (n c i : Nat) (l : List Nat) (w : World) (hl : RWd w [.slice A n c] l) :
    Calls Tryz.prog 99 #[.slice A n c, .int .i64 (i : Int)] w fun e w' => e = .returned (.int .u64 ((l.getD i 0 : Nat) : Int)) ∧ Below w.heap.size w w' := by
  obtain ⟨rfl, h1, h2, hlt, hrd⟩ := lw_at hl
  clear hl h2 hlt
  by_cases hi : i < l.length
  · obtain ⟨b, q, rfl, hbl, hc⟩ := lw_get hrd hi
    generalize l.getD i 0 = x at *
    have g1 : (i : Int) < (l.length : Int) := by omega
    have g2 : ¬ ((l.length : Int) ≤ (i : Int)) := by omega
    clear hrd
    go_enter Tryz.func99, Tryz.ntmps99
    go_wp2
    go_ret
    exact ⟨rfl, Below.refl _ _⟩
  · have g2 : (l.length : Int) ≤ (i : Int) := by omega
    have HX := Lib.hid (getD_out (l := l) (i := i) (by omega))
    clear hrd
    rw [HX.out]
    go_enter Tryz.func99, Tryz.ntmps99
    go_wp2
    go_ret
    exact ⟨rfl, Below.refl _ _⟩
theorem addR_lt {p : Nat} (hp : 0 < p) (a b : List Nat) (i : Nat) : addR p a b i < p := Nat.mod_lt _ hp
set_option maxRecDepth 100000 in
set_option maxHeartbeats 1000000 in
theorem rAddP_any (p : Nat) (A B : Option Addr) (n c m d : Nat) (a b : List Nat) (w : World) (hp : okP p = true) (ha : RWd w [.slice A n c] a) (hb' : RWd w [.slice B m d] b) (hn : n ≤ 100000) (hm : m ≤ 100000) :
    Calls Tryz.prog 43 #[.int .u64 p, .slice A n c, .slice B m d] w fun e w' => ∃ v, e = .returned v ∧ RWd w' [v] (addP p a b) ∧ Below w.heap.size w w' := by
  obtain ⟨rfl, -, -, -, -⟩ := lw_at ha
  obtain ⟨rfl, -, -, -, -⟩ := lw_at hb'
  obtain ⟨hp1, hp2⟩ := okP_lt hp
  have HA := Lib.hid (fun i w' (hb : Below w.heap.size w w') => rAt_any A a.length c i a w' (kept_RWd _ _ _ _ hb ha))
  have HB := Lib.hid (fun i w' (hb : Below w.heap.size w w') => rAt_any B b.length d i b w' (kept_RWd _ _ _ _ hb hb'))
  have HS := Lib.hid (fun x y w => rAdd_any p x y w hp)
  have HT := Lib.hid (fun A n c l w hl hn => rTrim_any p A n c l w hp hl hn)
  have HL := Lib.hid (show ∀ N, ∀ x ∈ (List.range N).map (addR p a b), x < 18446744073709551616 from fun N x hx => by obtain ⟨y, -, rfl⟩ := List.mem_map.1 hx; exact Nat.lt_trans (addR_lt (by omega) a b y) hp2)
  obtain ⟨t, ht⟩ : ∃ t, t = max a.length b.length := ⟨_, rfl⟩
  have HE := Lib.hid (show addP p a b = trimP p ((List.range t).map (addR p a b)) by rw [ht]; rfl)
  rw [HE.out]
  have HN := Lib.hid (fun k => range_snoc (addR p a b) k)
  have HR := Lib.hid (fun k => show addR p a b k = (a.getD k 0 + b.getD k 0) % p from rfl)
  clear ha hb' hp hp1 hp2 HE
  generalize addR p a b = f at *
  go_enter Tryz.func43, Tryz.ntmps43
  go_wp2_with fail
  go_loopw [7, 8] (fun v i wr => ∃ k : Nat, k ≤ t ∧ i = .int .i64 (k : Int) ∧ wr.ownsRow w.heap.size 22 1 v k (U64 ((List.range k).map f)) ∧ Below w.heap.size w wr) (fun _ i _ => t - (intOf i).toNat)
  case atStart => exact ⟨0, Nat.zero_le _, rfl, ⟨rfl, .inl ⟨rfl, rfl⟩⟩, Below.refl _ _⟩
  case round =>
    obtain ⟨k, hk, rfl, hown, hb⟩ := hrel
    by_cases hlt : k < t
    · have HA1 := Lib.hid (fun w => HA.out k w)
      have HB1 := Lib.hid (fun w => HB.out k w)
      have HR1 := Lib.hid (HR.out k)
      generalize a.getD k 0 = x at *
      generalize b.getD k 0 = y at *
      have HN1 := Lib.hid (HN.out k)
      obtain ⟨z, hz⟩ : ∃ z, z = f k := ⟨_, rfl⟩
      have HS1 := Lib.hid (fun w => by have := HS.out x y w; rw [← HR1.out, ← hz] at this; exact this)
      rw [← hz] at HN1
      clear hz HR1
      rcases (show k < a.length ∨ (¬ k < a.length ∧ k < b.length) by omega) with h | ⟨h, h'⟩
      · have g1 : (k : Int) < (a.length : Int) := by omega
        clear ht
        go_wp2_with fail
        refine (HA1.out _ hb).mono ?_
        rintro e w2 ⟨rfl, hbx⟩
        replace hb := below_chain hb hbx
        replace hown := own_below hown hbx (Nat.le_refl _)
        clear hbx
        go_wp2_with fail
        refine (HB1.out _ hb).mono ?_
        rintro e w3 ⟨rfl, hbx⟩
        replace hb := below_chain hb hbx
        replace hown := own_below hown hbx (Nat.le_refl _)
        clear hbx
        go_wp2_with fail
        refine (HS1.out _).mono ?_
        rintro e w4 ⟨rfl, hbx⟩
        replace hb := below_chain hb hbx
        replace hown := own_below hown hbx (Nat.le_refl _)
        clear hbx
        go_wp2_with (at_builtin; refine wpl_append rfl _ _ rfl el_w rfl (hown.alloc _) rfl (rd_one _ _ _) (one_U64 [z]) (by omega) (by simp; have := hb.size; omega) ?_)
        intro v' wn hown' hgrow hblk
        have hal := (Below.refl w4.heap.size w4).alloc (Nat.le_refl _) (.cells #[.int .u64 (z : Int)] 22)
        have hB := lw_grow (hown.alloc _) hgrow (by simp; have := hb.size; omega)
        replace hb := (below_on hb hal hb.size).trans hB
        replace hown : wn.ownsRow w.heap.size 22 1 v' (k + 1) (U64 ((List.range (k + 1)).map f)) := lw_app (b := [z]) hown' HN1.out
        clear hown' hgrow hblk hal hB
        go_wp2
        go_roundw
        case rel => exact ⟨k + 1, by omega, by go_num, hown, hb⟩
        case measure => simp [intOf]; omega
      · have g1 : ¬ ((k : Int) < (a.length : Int)) := by omega
        have g2 : (k : Int) < (b.length : Int) := by omega
        clear ht
        go_wp2_with fail
        refine (HA1.out _ hb).mono ?_
        rintro e w2 ⟨rfl, hbx⟩
        replace hb := below_chain hb hbx
        replace hown := own_below hown hbx (Nat.le_refl _)
        clear hbx
        go_wp2_with fail
        refine (HB1.out _ hb).mono ?_
        rintro e w3 ⟨rfl, hbx⟩
        replace hb := below_chain hb hbx
        replace hown := own_below hown hbx (Nat.le_refl _)
        clear hbx
        go_wp2_with fail
        refine (HS1.out _).mono ?_
        rintro e w4 ⟨rfl, hbx⟩
        replace hb := below_chain hb hbx
        replace hown := own_below hown hbx (Nat.le_refl _)
        clear hbx
        go_wp2_with (at_builtin; refine wpl_append rfl _ _ rfl el_w rfl (hown.alloc _) rfl (rd_one _ _ _) (one_U64 [z]) (by omega) (by simp; have := hb.size; omega) ?_)
        intro v' wn hown' hgrow hblk
        have hal := (Below.refl w4.heap.size w4).alloc (Nat.le_refl _) (.cells #[.int .u64 (z : Int)] 22)
        have hB := lw_grow (hown.alloc _) hgrow (by simp; have := hb.size; omega)
        replace hb := (below_on hb hal hb.size).trans hB
        replace hown : wn.ownsRow w.heap.size 22 1 v' (k + 1) (U64 ((List.range (k + 1)).map f)) := lw_app (b := [z]) hown' HN1.out
        clear hown' hgrow hblk hal hB
        go_wp2
        go_roundw
        case rel => exact ⟨k + 1, by omega, by go_num, hown, hb⟩
        case measure => simp [intOf]; omega
    · obtain rfl : k = t := by omega
      have g1 : ¬ ((k : Int) < (a.length : Int)) := by omega
      have g2 : ¬ ((k : Int) < (b.length : Int)) := by omega
      have hk2 : k ≤ 100000 := by omega
      obtain ⟨A1, c1, rfl, hc1, hc2, hrd1, -⟩ := own_form hown
      have hlw := lw_own hown (HL.out k)
      clear ht hown hrd1
      go_wp2_with fail
      refine (HT.out _ _ _ _ _ hlw hk2).mono ?_
      rintro e w5 ⟨v, rfl, hv, hbx⟩
      go_wp2
      go_ret
      exact ⟨_, rfl, hv, below_chain hb hbx⟩
set_option maxRecDepth 100000 in
set_option maxHeartbeats 1000000 in
theorem rScale_any (p : Nat) (A : Option Addr) (n c s : Nat) (l : List Nat) (w : World) (hp : okP p = true) (hl : RWd w [.slice A n c] l) (hn : n ≤ 100000) :
    Calls Tryz.prog 102 #[.int .u64 p, .slice A n c, .int .u64 (s : Int)] w fun e w' => ∃ v, e = .returned v ∧ RWd w' [v] (scaleP p l s) ∧ Below w.heap.size w w' := by
  obtain ⟨rfl, h1, h2, hlt, hrd⟩ := lw_at hl
  obtain ⟨hp1, hp2⟩ := okP_lt hp
  have HA := Lib.hid (fun a w => rMul_any p a s w hp)
  have HM := Lib.hid (show ∀ x ∈ l.map (fun y => y * s % p), x < 18446744073709551616 from fun x hx => by obtain ⟨y, -, rfl⟩ := List.mem_map.1 hx; exact Nat.lt_trans (Nat.mod_lt _ (by omega)) hp2)
  have HS := Lib.hid (fun A n c l w hl hn => rTrim_any p A n c l w hp hl hn)
  have HT := Lib.hid (show scaleP p l s = trimP p (l.map (fun y => y * s % p)) from rfl)
  rw [HT.out]
  clear hl h1 h2 hp hlt hp1 hp2
  obtain ⟨f, hf⟩ : ∃ f, f = fun y => y * s % p := ⟨_, rfl⟩
  have HF0 := Lib.hid (fun y => show f y = y * s % p by rw [hf])
  rw [← hf] at HM ⊢
  obtain ⟨L, hL⟩ : ∃ L, L = l.map f := ⟨_, rfl⟩
  have HLN := Lib.hid (show L.length = l.length by rw [hL]; simp)
  have HLG := Lib.hid (show ∀ k, L.getD k 0 = l.getD k 0 * s % p from fun k => by rw [hL, ← HF0.out]; exact map_get0 f (by rw [HF0.out]; simp) l k)
  rw [← hL] at HM ⊢
  clear hf HT hL HF0
  go_enter Tryz.func102, Tryz.ntmps102
  go_wp2_with fail
  go_loopw [7, 8] (fun v i wr => ∃ k : Nat, k ≤ l.length ∧ i = .int .i64 (k : Int) ∧ wr.ownsRow w.heap.size 22 1 v k (U64 (L.take k)) ∧ Below w.heap.size w wr) (fun _ i _ => l.length - (intOf i).toNat)
  case atStart => exact ⟨0, Nat.zero_le _, rfl, ⟨rfl, .inl ⟨rfl, rfl⟩⟩, Below.refl _ _⟩
  case round =>
    obtain ⟨k, hk, rfl, hown, hb⟩ := hrel
    by_cases hlt : k < l.length
    · obtain ⟨b, q, rfl, hbl, hc⟩ := lw_get (hrd.below hb) hlt
      have HF := Lib.hid (lw_snoc L k (by rw [HLN.out]; exact hlt)).symm
      have HG := Lib.hid (HLG.out k)
      obtain ⟨x, hx⟩ : ∃ x, x = l.getD k 0 := ⟨_, rfl⟩
      obtain ⟨z, hz⟩ : ∃ z, z = L.getD k 0 := ⟨_, rfl⟩
      rw [← hx] at hc HG
      rw [← hz] at HF HG
      have HA1 := Lib.hid (fun w => by have := HA.out x w; rw [← HG.out] at this; exact this)
      clear hx hz HG
      go_wp2_with fail
      refine (HA1.out _).mono ?_
      rintro e w2 ⟨rfl, hbx⟩
      replace hb := below_chain hb hbx
      replace hown := own_below hown hbx (Nat.le_refl _)
      clear hbx
      go_wp2_with (at_builtin; refine wpl_append rfl _ _ rfl el_w rfl (hown.alloc _) rfl (rd_one _ _ _) (one_U64 [z]) (by omega) (by simp; have := hb.size; omega) ?_)
      intro v' wn hown' hgrow hblk
      have hal := (Below.refl w2.heap.size w2).alloc (Nat.le_refl _) (.cells #[.int .u64 (z : Int)] 22)
      have hB := lw_grow (hown.alloc _) hgrow (by simp; have := hb.size; omega)
      replace hb := (below_on hb hal hb.size).trans hB
      replace hown : wn.ownsRow w.heap.size 22 1 v' (k + 1) (U64 (L.take (k + 1))) := lw_app (b := [z]) hown' HF.out
      clear hown' hgrow hblk hal hB
      go_wp2
      go_roundw
      case rel => exact ⟨k + 1, by omega, by go_num, hown, hb⟩
      case measure => simp [intOf]; omega
    · obtain rfl : k = l.length := by omega
      rw [List.take_of_length_le (by have := HLN.out; omega)] at hown
      obtain ⟨A1, c1, rfl, -, -, -, -⟩ := own_form hown
      have hlw := lw_own hown HM.out
      clear hown hrd
      go_wp2_with fail
      refine (HS.out _ _ _ _ _ hlw hn).mono ?_
      rintro e w5 ⟨v, rfl, hv, hbx⟩
      go_wp2
      go_ret
      exact ⟨_, rfl, hv, below_chain hb hbx⟩
theorem fill_zero (n : Nat) : (fillC n fun _ => 0).toList = U64 (List.replicate n 0) := by
  simp [fillC, U64]
  exact (List.map_const' ..).trans (by rw [List.length_range])
set_option maxRecDepth 100000 in
set_option maxHeartbeats 1000000 in
theorem rShift_any (A : Option Addr) (n c m : Nat) (l : List Nat) (w : World) (hl : RWd w [.slice A n c] l) (hn : n ≤ 100000) (hm : m ≤ 100000) :
    Calls Tryz.prog 144 #[.slice A n c, .int .i64 (m : Int)] w fun e w' => ∃ v, e = .returned v ∧ w'.ownsRow w.heap.size 22 1 v (m + n) (U64 (shiftP l m)) ∧ Below w.heap.size w w' := by
  obtain ⟨rfl, h1, h2, hlt, hrd⟩ := lw_at hl
  have mk := mk_words m (by omega)
  have g0 : (0 : Int) ≤ (m : Int) := by omega
  have g1 : (m : Int) ≤ 100000 := by omega
  have own0 : (w.alloc (.cells (fillC m fun _ => 0) 22)).ownsRow w.heap.size 22 1 (.slice (some ⟨w.heap.size, 0, none⟩) m m) m (U64 (List.replicate m 0)) := by
    have := World.ownsRow_lit (base := w.heap.size) (e := 22) (size := 1) w (fillC m fun _ => 0) m (Nat.le_refl _) (by simp [maxLen]; omega) (by simp [fillC])
    rw [fill_zero] at this
    exact this
  have hal := (Below.refl w.heap.size w).alloc (Nat.le_refl _) (.cells (fillC m fun _ => 0) 22)
  have HL := Lib.hid (show List.replicate m 0 ++ l = shiftP l m from rfl)
  have hrd1 := hrd.below hal
  clear hl h2 hlt hrd
  go_enter Tryz.func144, Tryz.ntmps144
  go_wp2_with (at_builtin; refine wpl_append rfl _ _ rfl el_w rfl own0 rfl hrd1 (one_U64 l) (by omega) (by simp) ?_)
  intro v' w2 hown hgrow hblk
  have hB := lw_grow own0 hgrow (by simp)
  replace hown := lw_app hown HL.out
  go_wp2
  go_ret
  exact ⟨_, rfl, hown, hal.trans hB⟩
theorem shiftP_lt {l : List Nat} {B : Nat} (hB : 0 < B) (hl : ∀ x ∈ l, x < B) (m : Nat) : ∀ x ∈ shiftP l m, x < B := fun x hx => by
  rcases List.mem_append.1 hx with h | h
  · rw [(List.mem_replicate.1 h).2]; exact hB
  · exact hl x h
theorem rwd_lt {w : World} {v : Value} {l : List Nat} (h : RWd w [v] l) : ∀ x ∈ l, x < 18446744073709551616 := by
  obtain ⟨A, n, c, -, -, -, -, h4⟩ := h
  exact h4
theorem rwd_form {w : World} {v : Value} {l : List Nat} (h : RWd w [v] l) : ∃ A c, v = .slice A l.length c := by
  obtain ⟨A, n, c, he, -, -, h3, -⟩ := id h
  simp at he
  subst he
  have := h3.len1
  rw [len_U64] at this
  subst this
  exact ⟨A, c, rfl⟩
set_option maxRecDepth 100000 in
set_option maxHeartbeats 2000000 in
theorem rMulP_any (p : Nat) (A B : Option Addr) (n c m d : Nat) (a b : List Nat) (w : World) (hp : okP p = true) (ha : RWd w [.slice A n c] a) (hb' : RWd w [.slice B m d] b) (hn : n ≤ 40000) (hm : m ≤ 40000) :
    Calls Tryz.prog 103 #[.int .u64 p, .slice A n c, .slice B m d] w fun e w' => ∃ v, e = .returned v ∧ RWd w' [v] (mulP p a b) ∧ Below w.heap.size w w' := by
  obtain ⟨rfl, -, -, -, hrd⟩ := lw_at ha
  obtain ⟨rfl, -, -, -, -⟩ := lw_at hb'
  have HA := Lib.hid (fun A B n c m d a b w ha hb hn hm => rAddP_any p A B n c m d a b w hp ha hb hn hm)
  have HS := Lib.hid (fun s w' (hb : Below w.heap.size w w') => rScale_any p B b.length d s b w' hp (kept_RWd _ _ _ _ hb hb') (by omega))
  have HK := Lib.hid (fun k => show mulK p a b (k + 1) = addP p (mulK p a b k) (shiftP (scaleP p b (a.getD k 0)) k) from rfl)
  have HL := Lib.hid (fun k (hk : k < a.length) => show (mulK p a b k).length ≤ 100000 by cases k with
    | zero => exact Nat.zero_le _
    | succ k => have := mulK_len p a b k; omega)
  have HC := Lib.hid (fun s => show (scaleP p b s).length ≤ 40000 by have := scaleP_len p b s; omega)
  have HE := Lib.hid (show mulP p a b = mulK p a b a.length from rfl)
  rw [HE.out]
  obtain ⟨f, hf⟩ : ∃ f, f = mulK p a b := ⟨_, rfl⟩
  have H0 := Lib.hid (show f 0 = [] by rw [hf]; rfl)
  obtain ⟨g, hg⟩ : ∃ g, g = scaleP p b := ⟨_, rfl⟩
  rw [← hf] at HK HL ⊢
  rw [← hg] at HK HC HS
  clear ha hb' hp HE hf hg
  go_enter Tryz.func103, Tryz.ntmps103
  go_wp2_with fail
  go_loopw [7, 8] (fun v i wr => ∃ k : Nat, k ≤ a.length ∧ i = .int .i64 (k : Int) ∧ RWd wr [v] (f k) ∧ Below w.heap.size w wr) (fun _ i _ => a.length - (intOf i).toNat)
  case atStart => exact ⟨0, Nat.zero_le _, rfl, by rw [H0.out]; exact ⟨none, 0, 0, rfl, Nat.le_refl _, by simp [maxLen], ⟨rfl, fun h => absurd h (by omega)⟩, fun x hx => by cases hx⟩, Below.refl _ _⟩
  case round =>
    obtain ⟨k, hk, rfl, hv, hb⟩ := hrel
    obtain ⟨A1, c1, rfl⟩ := rwd_form hv
    by_cases hlt : k < a.length
    · obtain ⟨b1, q, rfl, hbl, hc⟩ := lw_get (hrd.below hb) hlt
      have HK1 := Lib.hid (HK.out k)
      have HL1 := Lib.hid (HL.out k hlt)
      generalize a.getD k 0 = x at *
      have HS1 := Lib.hid (fun w => HS.out x w)
      have HC1 := Lib.hid (HC.out x)
      generalize g x = s at *
      obtain ⟨f0, hf0⟩ : ∃ f0, f0 = f k := ⟨_, rfl⟩
      rw [← hf0] at hv HK1 HL1 ⊢
      clear hf0
      go_wp2_with fail
      refine (HS1.out _ hb).mono ?_
      rintro e w2 ⟨v2, rfl, h2, hbx⟩
      replace hb := below_chain hb hbx
      replace hv := kept_RWd _ _ _ _ hbx hv
      clear hbx
      obtain ⟨A2, c2, rfl⟩ := rwd_form h2
      have hsl := HC1.out
      have hlt2 := rwd_lt h2
      go_wp2_with fail
      refine (rShift_any A2 s.length c2 k s _ h2 (by omega) (by omega)).mono ?_
      rintro e w3 ⟨v3, rfl, h3, hbx⟩
      replace hb := below_chain hb hbx
      replace hv := kept_RWd _ _ _ _ hbx hv
      clear hbx h2
      obtain ⟨A3, c3, rfl, -⟩ := own_form h3
      have hw3 := lw_own h3 (shiftP_lt (by omega) hlt2 k)
      go_wp2_with fail
      refine (HA.out _ _ _ _ _ _ _ _ _ hv hw3 HL1.out (by omega)).mono ?_
      rintro e w4 ⟨v4, rfl, h4, hbx⟩
      replace hb := below_chain hb hbx
      rw [← HK1.out] at h4
      go_wp2
      go_roundw
      case rel => exact ⟨k + 1, by omega, by go_num, h4, hb⟩
      case measure => simp [intOf]; omega
    · obtain rfl : k = a.length := by omega
      go_wp2
      go_ret
      exact ⟨_, rfl, hv, hb⟩
def geoR (p a b : Nat) : Nat → Nat
  | 0 => a
  | k + 1 => geoR p a b k * b % p
def domR (p s n : Nat) : Nat → Nat := geoR p (s % p) (rootP p n)
def hornP (p x : Nat) : List Nat → Nat
  | [] => 0
  | c :: l => (hornP p x l * x % p + c) % p
theorem hornP_lt {p : Nat} (hp : 0 < p) (x : Nat) : ∀ l, hornP p x l < p
  | [] => hp
  | _ :: _ => Nat.mod_lt _ hp
theorem hornP_drop (p x : Nat) (l : List Nat) (k : Nat) (h : k < l.length) : hornP p x (l.drop k) = (hornP p x (l.drop (k + 1)) * x % p + l.getD k 0) % p := by
  rw [List.drop_eq_getElem_cons h, hornP, List.getD_eq_getElem?_getD, List.getElem?_eq_getElem h]
  rfl
set_option maxRecDepth 100000 in
set_option maxHeartbeats 1000000 in
theorem rLength_any (p n : Nat) (w : World) (hp : okP p = true) (hn : LenOk p n) :
    Calls Tryz.prog 150 #[.int .u64 p, .int .i64 (n : Int)] w fun e w' => e = .returned (.bool true) ∧ Below w.heap.size w w' := by
  have HR := Lib.hid (fun w => rRoot_any p n w hp hn)
  have g1 : (n : Int) ≤ 4096 := by have := hn.le; omega
  clear hp hn
  go_enter Tryz.func150, Tryz.ntmps150
  go_wp2_with fail
  refine (HR.out _).mono ?_
  rintro e w1 ⟨rfl, hb⟩
  go_wp2
  go_ret
  exact ⟨rfl, hb⟩
set_option maxRecDepth 100000 in
set_option maxHeartbeats 1000000 in
theorem rDomain_any (p s n : Nat) (w : World) (hp : okP p = true) (hn : LenOk p n) (hs : s % p ≠ 0) :
    Calls Tryz.prog 120 #[.int .u64 p, .int .u64 (s : Int), .int .i64 (n : Int)] w fun e w' => ∃ v, e = .returned (.tuple #[v, .int .i64 0]) ∧ w'.ownsRow w.heap.size 22 1 v n (U64 ((List.range n).map (domR p s n))) ∧ Below w.heap.size w w' := by
  obtain ⟨hp1, hp2⟩ := okP_lt hp
  have hn4 := hn.le
  have HO := Lib.hid (fun w => by have := rValidP_any p w hp2; rw [hp] at this; exact this)
  have HR := Lib.hid (fun w => rRoot_any p n w hp hn)
  have HL := Lib.hid (fun w => rLength_any p n w hp hn)
  have HM := Lib.hid (fun a b w => rMul_any p a b w hp)
  obtain ⟨r, hr⟩ : ∃ r, r = rootP p n := ⟨_, rfl⟩
  obtain ⟨x0, hx0⟩ : ∃ x0, x0 = s % p := ⟨_, rfl⟩
  obtain ⟨f, hf⟩ : ∃ f, f = domR p s n := ⟨_, rfl⟩
  have HF0 := Lib.hid (show f 0 = x0 by rw [hf, hx0]; rfl)
  have HF := Lib.hid (fun k => show f (k + 1) = f k * r % p by rw [hf, hr]; rfl)
  have p1 : (0 : Int) < (p : Int) := by omega
  have p2 : ((p : Int) == 0) = false := by rw [beq_eq_false_iff_ne]; omega
  have p3 : ¬ (p = 0) := by omega
  have e1 : (s : Int) % (p : Int) = (x0 : Int) := by rw [hx0]; rfl
  have e2 : (s : Int).tmod (p : Int) = (x0 : Int) := by rw [hx0]; rfl
  have e3 : ((x0 : Int) == 0) = false := by rw [beq_eq_false_iff_ne]; omega
  have HS := Lib.hid (fun k => range_snoc f k)
  rw [← hr] at HR
  rw [← hf]
  clear hr hf hx0 hs hn hp hp1 hp2
  go_enter Tryz.func120, Tryz.ntmps120
  go_wp2_with fail
  refine (HO.out _).mono ?_
  rintro e w1 ⟨rfl, hb⟩
  go_wp2_with fail
  refine (HL.out _).mono ?_
  rintro e w2 ⟨rfl, hbx⟩
  replace hb := below_chain hb hbx
  clear hbx
  go_wp2_with fail
  refine (HR.out _).mono ?_
  rintro e w3 ⟨rfl, hbx⟩
  replace hb := below_chain hb hbx
  clear hbx
  go_wp2_with fail
  go_loopw [10, 11, 12] (fun y v i wr => ∃ k : Nat, k ≤ n ∧ i = .int .i64 (k : Int) ∧ y = .int .u64 (f k : Int) ∧ wr.ownsRow w.heap.size 22 1 v k (U64 ((List.range k).map f)) ∧ Below w.heap.size w wr) (fun _ _ i _ => n - (intOf i).toNat)
  case atStart => exact ⟨0, Nat.zero_le _, rfl, by rw [HF0.out], ⟨rfl, .inl ⟨rfl, rfl⟩⟩, hb⟩
  case round =>
    clear hb
    obtain ⟨k, hk, rfl, rfl, hown, hb⟩ := hrel
    by_cases hlt : k < n
    · have g1 : (k : Int) < (n : Int) := by omega
      have HS1 := Lib.hid (HS.out k)
      have HF1 := Lib.hid (HF.out k)
      obtain ⟨y, hy⟩ : ∃ y, y = f (k + 1) := ⟨_, rfl⟩
      have HY := Lib.hid hy
      obtain ⟨z, hz⟩ : ∃ z, z = f k := ⟨_, rfl⟩
      rw [← hy, ← hz] at HF1
      rw [← hz] at HS1 ⊢
      have HM1 := Lib.hid (fun w => by have := HM.out z r w; rw [← HF1.out] at this; exact this)
      clear hy hz HF1
      go_wp2_with (at_builtin; refine wpl_append rfl _ _ rfl el_w rfl (hown.alloc _) rfl (rd_one _ _ _) (one_U64 [z]) (by omega) (by simp; have := hb.size; omega) ?_)
      intro v' wn hown' hgrow hblk
      have hal := (Below.refl wr.heap.size wr).alloc (Nat.le_refl _) (.cells #[.int .u64 (z : Int)] 22)
      have hB := lw_grow (hown.alloc _) hgrow (by simp; have := hb.size; omega)
      replace hb := (below_on hb hal hb.size).trans hB
      replace hown : wn.ownsRow w.heap.size 22 1 v' (k + 1) (U64 ((List.range (k + 1)).map f)) := lw_app (b := [z]) hown' HS1.out
      clear hown' hgrow hblk hal hB
      go_wp2_with fail
      refine (HM1.out _).mono ?_
      rintro e w4 ⟨rfl, hbx⟩
      replace hb := below_chain hb hbx
      replace hown := own_below hown hbx (Nat.le_refl _)
      clear hbx
      go_wp2
      go_roundw
      case rel => exact ⟨k + 1, by omega, by go_num, by rw [HY.out], hown, hb⟩
      case measure => simp [intOf]; omega
    · obtain rfl : k = n := by omega
      have g1 : ¬ ((k : Int) < (k : Int)) := by omega
      go_wp2
      go_ret2
      exact ⟨_, rfl, hown, hb⟩
set_option maxRecDepth 100000 in
set_option maxHeartbeats 1000000 in
theorem rHorn_any (p : Nat) (A : Option Addr) (n c x : Nat) (l : List Nat) (w : World) (hp : okP p = true) (hl : RWd w [.slice A n c] l) :
    Calls Tryz.prog 161 #[.int .u64 p, .slice A n c, .int .u64 (x : Int)] w fun e w' => e = .returned (.int .u64 ((hornP p x l : Nat) : Int)) ∧ Below w.heap.size w w' := by
  obtain ⟨rfl, h1, h2, hlt, hrd⟩ := lw_at hl
  have gm := lw_max h1 h2
  have HM := Lib.hid (fun a b w => rMul_any p a b w hp)
  have HA := Lib.hid (fun a b w => rAdd_any p a b w hp)
  have HD := Lib.hid (hornP_drop p x l)
  obtain ⟨f, hf⟩ : ∃ f, f = fun k => hornP p x (l.drop k) := ⟨_, rfl⟩
  have HF0 := Lib.hid (show f 0 = hornP p x l by rw [hf]; rfl)
  have HF9 := Lib.hid (show f l.length = 0 by rw [hf]; simp [hornP])
  have HF := Lib.hid (fun k (hk : k < l.length) => show f k = (f (k + 1) * x % p + l.getD k 0) % p by rw [hf]; exact HD.out k hk)
  rw [← HF0.out]
  clear HD hl h1 h2 hp hlt hf HF0
  obtain ⟨m, hm⟩ : ∃ m : Int, m = (l.length : Int) - 1 := ⟨_, rfl⟩
  have g0 : (l.length : Int) - 1 = m := hm.symm
  have gw : IntKind.i64.wrap m = m := wr_i64 _ (by omega) (by omega)
  have HMM := Lib.hid hm
  clear hm
  go_enter Tryz.func161, Tryz.ntmps161
  go_wp2_with fail
  clear g0 gw
  go_loopw [7, 8] (fun y i wr => ∃ (k : Nat) (j : Int), Hid (j + 1 = (k : Int)) ∧ k ≤ l.length ∧ i = .int .i64 j ∧ y = .int .u64 (f k : Int) ∧ Below w.heap.size w wr) (fun _ i _ => (intOf i + 1).toNat)
  case atStart => exact ⟨l.length, m, Lib.hid (by have := HMM.out; omega), Nat.le_refl _, rfl, by rw [HF9.out]; rfl, Below.refl _ _⟩
  case round =>
    obtain ⟨k, j, HJ, hk, rfl, rfl, hb⟩ := hrel
    rcases Nat.eq_zero_or_pos k with h0 | h0
    · subst h0
      have hj : j = -1 := by have := HJ.out; omega
      subst hj
      go_wp2
      go_ret
      exact ⟨rfl, hb⟩
    · obtain ⟨i, hi⟩ : ∃ i, i = k - 1 := ⟨_, rfl⟩
      have hj : j = (i : Int) := by have := HJ.out; omega
      subst hj
      have hil : i < l.length := by omega
      obtain ⟨b, q, rfl, hbl, hc⟩ := lw_get (hrd.below hb) hil
      have HF1 := Lib.hid (HF.out i hil)
      rw [show i + 1 = k by omega] at HF1
      obtain ⟨y, hy⟩ : ∃ y, y = f k := ⟨_, rfl⟩
      rw [← hy] at HF1 ⊢
      generalize l.getD i 0 = a at *
      obtain ⟨z, hz⟩ : ∃ z, z = y * x % p := ⟨_, rfl⟩
      have HM1 := Lib.hid (fun w => by have := HM.out y x w; rw [← hz] at this; exact this)
      rw [← hz] at HF1
      have HA1 := Lib.hid (fun w => by have := HA.out z a w; rw [← HF1.out] at this; exact this)
      have HI := Lib.hid hi
      obtain ⟨y2, hy2⟩ : ∃ y2, y2 = f i := ⟨_, rfl⟩
      rw [← hy2] at HA1
      have HY2 := Lib.hid hy2
      have gi1 : (0 : Int) ≤ (i : Int) := by omega
      have gi2 : (i : Int) < (l.length : Int) := by omega
      obtain ⟨j2, hj2⟩ : ∃ j2 : Int, j2 = (i : Int) - 1 := ⟨_, rfl⟩
      have gj : (i : Int) - 1 = j2 := hj2.symm
      have gw : IntKind.i64.wrap j2 = j2 := wr_i64 _ (by omega) (by omega)
      have HJ2 := Lib.hid hj2
      clear hz hy hi HF1 hy2 hj2
      go_upto_region 5 with fail
      refine wpGO_begin (Later) (later_moves) [] [] [0, 1, 2, 3, 4, 5, 6, 7, 8, 9, 10] (by kernel_rfl) (by kernel_rfl) ?_
      refine wpGO_start (later_moves) ?_
      intro Wc hacc
      repeat (first | (refine wpGO_skip (later_moves) rfl rfl rfl rfl (fun _ _ _ h => h) ?_ ; simp only [Act.put, List.setIfInBounds_toArray, List.set_cons_zero, List.set_cons_succ]) | (refine wpGO_light (v := ?_) (later_moves) rfl rfl rfl rfl (fun _ _ _ h => h) ?_ ?_ ; rotate_left ; (· (intro w' hR ; (first | have hcells := later_cellsD ((later_moves).trans _ _ _ hacc hR) | skip) ; go_simp ; try with_reducible rfl)) ; simp only [Act.put, List.setIfInBounds_toArray, List.set_cons_zero, List.set_cons_succ]))
      refine wpGO_call (later_moves) rfl rfl rfl rfl (fun _ _ _ h => h) (fun _ => by go_simp <;> rfl) (fun w' hR => HM1.out _) ?_
      simp only [Act.put, List.setIfInBounds_toArray, List.set_cons_zero, List.set_cons_succ]
      repeat (first | (refine wpGO_skip (later_moves) rfl rfl rfl rfl (fun _ _ _ h => h) ?_ ; simp only [Act.put, List.setIfInBounds_toArray, List.set_cons_zero, List.set_cons_succ]) | (refine wpGO_light (v := ?_) (later_moves) rfl rfl rfl rfl (fun _ _ _ h => h) ?_ ?_ ; rotate_left ; (· (intro w' hR ; (first | have hcells := later_cellsD ((later_moves).trans _ _ _ hacc hR) | skip) ; go_simp ; try with_reducible rfl)) ; simp only [Act.put, List.setIfInBounds_toArray, List.set_cons_zero, List.set_cons_succ]))
      refine wpGO_call (later_moves) rfl rfl rfl rfl (fun _ _ _ h => h) (fun _ => by go_simp <;> rfl) (fun w' hR => HA1.out _) ?_
      simp only [Act.put, List.setIfInBounds_toArray, List.set_cons_zero, List.set_cons_succ]
      repeat (first | (refine wpGO_skip (later_moves) rfl rfl rfl rfl (fun _ _ _ h => h) ?_ ; simp only [Act.put, List.setIfInBounds_toArray, List.set_cons_zero, List.set_cons_succ]) | (refine wpGO_light (v := ?_) (later_moves) rfl rfl rfl rfl (fun _ _ _ h => h) ?_ ?_ ; rotate_left ; (· (intro w' hR ; (first | have hcells := later_cellsD ((later_moves).trans _ _ _ hacc hR) | skip) ; go_simp ; try with_reducible rfl)) ; simp only [Act.put, List.setIfInBounds_toArray, List.set_cons_zero, List.set_cons_succ]))
      refine wpGO_done rfl ?_
      intro wd hRd
      replace hacc := (later_moves).trans _ _ _ hacc hRd
      clear hRd
      go_wp2
      go_roundw
      case rel => exact ⟨i, j2, Lib.hid (by have := HJ2.out; omega), by omega, rfl, by rw [HY2.out], below_chain hb.drew hacc⟩
      case measure => have := HJ2.out; simp [intOf]; omega
theorem upTo_row {n i v : Nat} {F G : Nat → Nat} (h : v = F i) : (U64 ((List.range n).map (upTo F G i))).set i (.int .u64 (v : Int)) = U64 ((List.range n).map (upTo F G (i + 1))) := by
  have := upTo_set (n := n) (G := G) h
  rw [fill_U64, fill_U64] at this
  have h2 := congrArg Array.toList this
  simpa using h2
theorem upTo_row0 (n : Nat) (F G : Nat → Nat) : (List.range n).map (upTo F G 0) = (List.range n).map G := List.map_congr_left fun i _ => by simp [upTo]
theorem upTo_rown (n : Nat) (F G : Nat → Nat) : (List.range n).map (upTo F G n) = (List.range n).map F := List.map_congr_left fun i hi => by simp [upTo, List.mem_range.1 hi]
theorem upTo_at {n i : Nat} (F G : Nat → Nat) (h : i < n) : (U64 ((List.range n).map (upTo F G i)))[i]? = some (.int .u64 (G i : Int)) := by simp [U64, upTo, h]
set_option maxRecDepth 100000 in
set_option maxHeartbeats 1000000 in
theorem rEvaluate_any (p s n : Nat) (A : Option Addr) (m c : Nat) (l : List Nat) (w : World) (hp : okP p = true) (hl : RWd w [.slice A m c] l) (hn : LenOk p n) (hs : s % p ≠ 0) (hm : m ≤ 8192) :
    Calls Tryz.prog 145 #[.int .u64 p, .slice A m c, .int .u64 (s : Int), .int .i64 (n : Int)] w fun e w' => ∃ v, e = .returned (.tuple #[v, .int .i64 0]) ∧ w'.ownsRow w.heap.size 22 1 v n (U64 ((List.range n).map fun i => hornP p (domR p s n i) l)) ∧ Below w.heap.size w w' := by
  have hn4 := hn.le
  have hn1 := hn.pos
  have HD := Lib.hid (fun w => rDomain_any p s n w hp hn hs)
  have HH := Lib.hid (fun x w' (hb : Below w.heap.size w w') => rHorn_any p A m c x l w' hp (kept_RWd _ _ _ _ hb hl))
  obtain ⟨G, hG⟩ : ∃ G, G = domR p s n := ⟨_, rfl⟩
  obtain ⟨F, hF⟩ : ∃ F, F = fun i => hornP p (G i) l := ⟨_, rfl⟩
  have HFG := Lib.hid (fun i => show F i = hornP p (G i) l by rw [hF])
  rw [← hG] at HD ⊢
  rw [← hF]
  clear hG hF hl hp hn hs
  have gm : (m : Int) ≤ 8192 := by omega
  go_enter Tryz.func145, Tryz.ntmps145
  go_wp2_with fail
  refine (HD.out _).mono ?_
  rintro e w1 ⟨v, rfl, hown, hb⟩
  obtain ⟨g, cap, rfl, hg1, hg2⟩ := World.ownsRow.form hown (by omega)
  go_wp2_with fail
  have gn : (n : Int) ≤ 4096 := by omega
  have H0 := Lib.hid (upTo_row0 n F G)
  go_loopw [12] (fun i wr => ∃ k : Nat, k ≤ n ∧ i = .int .i64 (k : Int) ∧ wr.ownsRow w.heap.size 22 1 (.slice (some ⟨g, 0, none⟩) n cap) n (U64 ((List.range n).map (upTo F G k))) ∧ Below w.heap.size w wr) (fun i _ => n - (intOf i).toNat)
  case atStart => exact ⟨0, Nat.zero_le _, rfl, by rw [H0.out]; exact hown, hb⟩
  case round =>
    clear hown hb
    obtain ⟨k, hk, rfl, hown, hb⟩ := hrel
    by_cases hlt : k < n
    · have g1 : (k : Int) < (n : Int) := by omega
      have c0 : wr.cell? ⟨g, k, none⟩ = some (.int .u64 (G k : Int)) := by rw [hown.cellAt k (by omega)]; exact upTo_at F G hlt
      have lg : g < wr.heap.size := World.block_lt_of_cell? _ _ c0
      obtain ⟨x, hx⟩ : ∃ x, x = G k := ⟨_, rfl⟩
      obtain ⟨z, hz⟩ : ∃ z, z = F k := ⟨_, rfl⟩
      have HST := Lib.hid (upTo_row (n := n) (G := G) hz)
      have ez : hornP p x l = z := by rw [hz, HFG.out, hx]
      have HH1 := Lib.hid (fun w' hb => by have := HH.out x w' hb; rw [ez] at this; exact this)
      clear ez
      rw [← hx] at c0
      have HX := Lib.hid hx
      clear hx hz
      go_wp2_with fail
      refine (HH1.out _ hb).mono ?_
      rintro e w2 ⟨rfl, hbx⟩
      replace hb := below_chain hb hbx
      replace hown := own_below hown hbx (Nat.le_refl _)
      clear hbx
      clear c0 lg
      have c2 : w2.cell? ⟨g, k, none⟩ = some (.int .u64 (x : Int)) := by rw [hown.cellAt k (by omega), HX.out]; exact upTo_at F G hlt
      have f2 := hown.frozenAt
      obtain ⟨hown2, hg⟩ := hown.stored k (.int .u64 (z : Int))
      rw [HST.out] at hown2
      have hb2 := hb.trans (below_of_only hg hb.size hg1)
      go_wp2_with fail
      go_roundw
      case rel => exact ⟨k + 1, by omega, by go_num, hown2, hb2⟩
      case measure => simp [intOf]; omega
    · obtain rfl : k = n := by omega
      have g1 : ¬ ((k : Int) < (k : Int)) := by omega
      rw [upTo_rown] at hown
      go_wp2
      go_ret2
      exact ⟨_, rfl, hown, hb⟩
def intE (p : Nat) (l : List Nat) (i : Nat) : Nat := hornP p (domR p 1 l.length i) l
def intR (p : Nat) (l : List Nat) (s i : Nat) : Nat := intE p l ((l.length - i) % l.length) * geoR p (l.length ^ (p - 2) % p) ((s % p) ^ (p - 2) % p) i % p
set_option maxRecDepth 100000 in
set_option maxHeartbeats 2000000 in
theorem rInterpolate_any (p s n : Nat) (A : Option Addr) (c : Nat) (l : List Nat) (w : World) (hp : okP p = true) (hl : RWd w [.slice A n c] l) (hn : LenOk p n) (hs : s % p ≠ 0) :
    Calls Tryz.prog 104 #[.int .u64 p, .slice A n c, .int .u64 (s : Int)] w fun e w' => ∃ v, e = .returned (.tuple #[v, .int .i64 0]) ∧ w'.ownsRow w.heap.size 22 1 v n (U64 ((List.range n).map (intR p l s))) ∧ Below w.heap.size w w' := by
  obtain ⟨hp1, hp2⟩ := okP_lt hp
  have hn4 := hn.le
  have hn1 := hn.pos
  have hnl := (lw_at hl).1
  have HD := Lib.hid (fun w => rDomain_any p s n w hp hn hs)
  have HV := Lib.hid (fun w' (hb : Below w.heap.size w w') => rEvaluate_any p 1 n A n c l w' hp (kept_RWd _ _ _ _ hb hl) hn (by rw [Nat.mod_eq_of_lt (by omega)]; decide) (by omega))
  have HM := Lib.hid (fun a b w => rMul_any p a b w hp)
  obtain ⟨x0, hx0⟩ : ∃ x0, x0 = s % p := ⟨_, rfl⟩
  obtain ⟨s0, hs0⟩ : ∃ s0, s0 = n ^ (p - 2) % p := ⟨_, rfl⟩
  obtain ⟨t, ht⟩ : ∃ t, t = x0 ^ (p - 2) % p := ⟨_, rfl⟩
  have HI1 := Lib.hid (fun w => by have := rInv_any p n w hp; rw [← hs0] at this; exact this)
  have HI2 := Lib.hid (fun w => by have := rInv_any p x0 w hp; rw [← ht] at this; exact this)
  obtain ⟨E, hE⟩ : ∃ E, E = fun i => hornP p (domR p 1 n i) l := ⟨_, rfl⟩
  rw [← hE] at HV
  obtain ⟨R, hR⟩ : ∃ R, R = fun i => E ((n - i) % n) := ⟨_, rfl⟩
  have HR0 := Lib.hid (show [E 0] = (List.range 1).map R by rw [hR]; simp)
  have HRS := Lib.hid (show ∀ i k, i + k = n → 0 < i → 0 < k → (List.range k).map R ++ [E i] = (List.range (k + 1)).map R from fun i k h h1 h2 => by
    rw [← range_snoc R k, hR]
    show _ ++ [E i] = _ ++ [E ((n - k) % n)]
    rw [show n - k = i by omega, Nat.mod_eq_of_lt (by omega)])
  obtain ⟨S, hS⟩ : ∃ S, S = geoR p s0 t := ⟨_, rfl⟩
  have HS0 := Lib.hid (show S 0 = s0 by rw [hS]; rfl)
  have HS1 := Lib.hid (show ∀ k, S (k + 1) = S k * t % p from fun k => by rw [hS]; rfl)
  obtain ⟨F, hF⟩ : ∃ F, F = fun i => R i * S i % p := ⟨_, rfl⟩
  have HF := Lib.hid (show ∀ i, F i = R i * S i % p from fun i => by rw [hF])
  have hres : intR p l s = F := by
    funext i
    rw [hF, hR, hE, hS, hs0, ht, hx0]
    simp only [intR, intE, ← hnl]
  rw [hres]
  have p1 : (0 : Int) < (p : Int) := by omega
  have p2 : ((p : Int) == 0) = false := by rw [beq_eq_false_iff_ne]; omega
  have p3 : ¬ (p = 0) := by omega
  have e1 : (s : Int) % (p : Int) = (x0 : Int) := by rw [hx0]; rfl
  have e2 : (s : Int).tmod (p : Int) = (x0 : Int) := by rw [hx0]; rfl
  have en : IntKind.u64.wrap (n : Int) = (n : Int) := wr_nat _ (by omega)
  obtain ⟨m, hm⟩ : ∃ m : Nat, m = n - 1 := ⟨_, rfl⟩
  have em : (n : Int) - 1 = (m : Int) := by omega
  have em2 : IntKind.i64.wrap (m : Int) = (m : Int) := wr_i64 _ (by omega) (by omega)
  have gn : (n : Int) ≤ 4096 := by omega
  have gn1 : (0 : Int) < (n : Int) := by omega
  have hmn : m + 1 = n := by omega
  have HMN := Lib.hid hmn
  clear hx0 hs0 ht hE hR hS hF hres hl hp hn hs hp1 hp2 hnl hm hmn
  go_enter Tryz.func104, Tryz.ntmps104
  go_wp2_with fail
  refine (HD.out _).mono ?_
  rintro e w1 ⟨v0, rfl, -, hb⟩
  go_wp2_with fail
  refine (HV.out _ hb).mono ?_
  rintro e w2 ⟨v1, rfl, hown1, hbx⟩
  replace hb := below_chain hb hbx
  clear hbx
  obtain ⟨g1, cap1, rfl, hg1, hg2⟩ := World.ownsRow.form hown1 (by omega)
  have hrd : Rd w2 1 (some ⟨g1, 0, none⟩) n (U64 ((List.range n).map E)) := by
    obtain ⟨A', c', he, -, -, h3, -⟩ := own_form hown1
    injection he with h1 h2 h3'
    subst h1
    exact h3
  have hcE : ∀ (u : World) i, Below w2.heap.size w2 u → i < n → u.cell? ⟨g1, i, none⟩ = some (.int .u64 (E i : Int)) := fun u i hu hi => by
    have h := hu.cell (p := ⟨g1, i, none⟩) hg2
    rw [h, hown1.cellAt i (by omega)]
    simp [U64, hi]
  have HC := Lib.hid hcE
  have c0 := hcE w2 0 (Below.refl _ _) (by omega)
  clear hown1 hrd hcE
  obtain ⟨y0, hy0⟩ : ∃ y0, y0 = E 0 := ⟨_, rfl⟩
  rw [← hy0] at c0 HR0
  clear hy0
  have own0 := World.ownsRow_lit (base := w2.heap.size) (e := 22) (size := 1) w2 #[.int .u64 (y0 : Int)] 1 (Nat.le_refl _) (by simp [maxLen]) rfl
  have hal := (Below.refl w2.heap.size w2).alloc (Nat.le_refl _) (.cells #[.int .u64 (y0 : Int)] 22)
  replace own0 : (w2.alloc (.cells #[.int .u64 (y0 : Int)] 22)).ownsRow w2.heap.size 22 1 (.slice (some ⟨w2.heap.size, 0, none⟩) 1 1) 1 (U64 ((List.range 1).map R)) := by
    rw [← HR0.out]; exact own0
  go_wp2_with fail
  clear c0
  go_loopw [13, 14] (fun v i wr => ∃ i' k : Nat, i = .int .i64 (i' : Int) ∧ Hid (i' + k = n) ∧ 0 < k ∧ i' < n ∧ k ≤ n ∧ wr.ownsRow w2.heap.size 22 1 v k (U64 ((List.range k).map R)) ∧ Below w2.heap.size w2 wr) (fun _ i _ => (intOf i).toNat)
  case atStart => exact ⟨m, 1, rfl, Lib.hid HMN.out, by omega, by have := HMN.out; omega, by omega, own0, hal⟩
  case round =>
    clear own0 hal
    obtain ⟨i, k, rfl, HK, hk0, hin, hkn, hown, hb2⟩ := hrel
    rcases Nat.eq_zero_or_pos i with hi0 | hi0
    · subst hi0
      have hk : k = n := by have := HK.out; omega
      subst hk
      go_wp2_with fail
      refine (HI1.out _).mono ?_
      rintro e w3 ⟨rfl, hbx⟩
      replace hb2 := below_chain hb2 hbx
      replace hown := own_below hown hbx (Nat.le_refl _)
      clear hbx
      go_wp2_with fail
      refine (HI2.out _).mono ?_
      rintro e w4 ⟨rfl, hbx⟩
      replace hb2 := below_chain hb2 hbx
      replace hown := own_below hown hbx (Nat.le_refl _)
      clear hbx
      obtain ⟨g, cap, rfl, hg3, hg4⟩ := World.ownsRow.form hown (by omega)
      replace hown := own_base hown hb.size
      replace hg3 : w.heap.size ≤ g := Nat.le_trans hb.size hg3
      replace hb := hb.trans (hb2.mono hb.size)
      clear hb2
      go_wp2_with fail
      have H0 := Lib.hid (upTo_row0 k F R)
      go_loopw [15, 17] (fun y i wr => ∃ j : Nat, j ≤ k ∧ i = .int .i64 (j : Int) ∧ y = .int .u64 (S j : Int) ∧ wr.ownsRow w.heap.size 22 1 (.slice (some ⟨g, 0, none⟩) k cap) k (U64 ((List.range k).map (upTo F R j))) ∧ Below w.heap.size w wr) (fun _ i _ => k - (intOf i).toNat)
      case atStart => exact ⟨0, Nat.zero_le _, rfl, by rw [HS0.out], by rw [H0.out]; exact hown, hb⟩
      case round =>
        clear hown hb
        obtain ⟨j, hj, rfl, rfl, hown, hb⟩ := hrel
        by_cases hlt : j < k
        · have q1 : (j : Int) < (k : Int) := by omega
          have c0 : wr.cell? ⟨g, j, none⟩ = some (.int .u64 (R j : Int)) := by rw [hown.cellAt j (by omega)]; exact upTo_at F R hlt
          have lg : g < wr.heap.size := World.block_lt_of_cell? _ _ c0
          obtain ⟨z, hz⟩ : ∃ z, z = F j := ⟨_, rfl⟩
          have HST := Lib.hid (upTo_row (n := k) (G := R) hz)
          have HF1 := Lib.hid (HF.out j)
          rw [← hz] at HF1
          have HS2 := Lib.hid (HS1.out j)
          obtain ⟨s2, hs2⟩ : ∃ s2, s2 = S (j + 1) := ⟨_, rfl⟩
          rw [← hs2] at HS2
          have HSS := Lib.hid hs2
          obtain ⟨x, hx⟩ : ∃ x, x = R j := ⟨_, rfl⟩
          obtain ⟨y, hy⟩ : ∃ y, y = S j := ⟨_, rfl⟩
          rw [← hx, ← hy] at HF1
          rw [← hy] at HS2 ⊢
          have HM1 := Lib.hid (fun w => by have := HM.out x y w; rw [← HF1.out] at this; exact this)
          have HM2 := Lib.hid (fun w => by have := HM.out y t w; rw [← HS2.out] at this; exact this)
          rw [← hx] at c0
          have HX := Lib.hid hx
          clear hx hz hy hs2 HF1 HS2
          go_wp2_with fail
          refine (HM1.out _).mono ?_
          rintro e w5 ⟨rfl, hbx⟩
          replace hb := below_chain hb hbx
          replace hown := own_below hown hbx (Nat.le_refl _)
          clear hbx
          clear c0 lg
          have c2 : w5.cell? ⟨g, j, none⟩ = some (.int .u64 (x : Int)) := by rw [hown.cellAt j (by omega), HX.out]; exact upTo_at F R hlt
          have f2 := hown.frozenAt
          obtain ⟨hown2, hg⟩ := hown.stored j (.int .u64 (z : Int))
          rw [HST.out] at hown2
          have hb2 := hb.trans (below_of_only hg hb.size hg3)
          clear hown hb
          go_wp2_with fail
          clear f2 c2 hg
          generalize w5.setCell _ _ = w6 at hown2 hb2 ⊢
          refine (HM2.out _).mono ?_
          rintro e w7 ⟨rfl, hbx⟩
          replace hb2 := below_chain hb2 hbx
          replace hown2 := own_below hown2 hbx (Nat.le_refl _)
          go_wp2_with fail
          go_roundw
          case rel => exact ⟨j + 1, by omega, by go_num, by rw [HSS.out], hown2, hb2⟩
          case measure => simp [intOf]; omega
        · obtain rfl : j = k := by omega
          have q1 : ¬ ((j : Int) < (j : Int)) := by omega
          rw [upTo_rown] at hown
          go_wp2
          go_ret2
          exact ⟨_, rfl, hown, hb⟩
    · have q1 : (0 : Int) < (i : Int) := by omega
      have q2 : (i : Int) < (n : Int) := by omega
      have c1 := HC.out wr i hb2 hin
      have HRS1 := Lib.hid (HRS.out i k HK.out hi0 hk0)
      obtain ⟨z, hz⟩ : ∃ z, z = E i := ⟨_, rfl⟩
      rw [← hz] at c1 HRS1
      clear hz
      obtain ⟨i2, hi2⟩ : ∃ i2, i2 = i - 1 := ⟨_, rfl⟩
      have ei : (i : Int) - 1 = (i2 : Int) := by omega
      have ei2 : IntKind.i64.wrap (i2 : Int) = (i2 : Int) := wr_i64 _ (by omega) (by omega)
      have HI := Lib.hid hi2
      clear hi2
      go_wp2_with (at_builtin; refine wpl_append rfl _ _ rfl el_w rfl (hown.alloc _) rfl (rd_one _ _ _) (one_U64 [z]) (by omega) (by simp; have := hb2.size; omega) ?_)
      intro v' wn hown' hgrow hblk
      have hal := (Below.refl wr.heap.size wr).alloc (Nat.le_refl _) (.cells #[.int .u64 (z : Int)] 22)
      have hB := lw_grow (hown.alloc _) hgrow (by simp; have := hb2.size; omega)
      replace hb2 := (below_on hb2 hal hb2.size).trans hB
      replace hown : wn.ownsRow w2.heap.size 22 1 v' (k + 1) (U64 ((List.range (k + 1)).map R)) := lw_app (b := [z]) hown' HRS1.out
      clear hown' hgrow hblk hal hB
      go_wp2
      go_roundw
      case rel => exact ⟨i2, k + 1, rfl, Lib.hid (by have := HK.out; have := HI.out; omega), by omega, by have := HI.out; omega, by have := HK.out; omega, hown, hb2⟩
      case measure => have := HI.out; simp [intOf]; omega
def bigQ : Nat := 18446744069414584321
theorem okBig : okP bigQ = true := by decide
def drawAt (x : Nat) (r : List Nat) (k : Nat) : Nat := sqAt bigQ (absorbP bigQ 22 (x % bigQ :: r)) k
def drawP (p x : Nat) (r : List Nat) (k : Nat) : Nat := drawAt x r k % p
def St.lt (p : Nat) (s : St) : Prop := s.a < p ∧ s.b < p ∧ s.c < p
theorem permP_lt {p : Nat} (hp : 0 < p) (s : St) : (permP p s).lt p := ⟨Nat.mod_lt _ hp, Nat.mod_lt _ hp, Nat.mod_lt _ hp⟩
theorem absP_lt {p : Nat} (hp : 0 < p) : ∀ (l : List Nat) (s : St), s.lt p → (absP p l s).lt p
  | [], _, h => h
  | [_], _, _ => permP_lt hp _
  | _ :: _ :: r, _, _ => absP_lt hp r _ (permP_lt hp _)
theorem perI_lt {p : Nat} (hp : 0 < p) (s : St) (h : s.lt p) : ∀ m, (perI p s m).lt p
  | 0 => h
  | _ + 1 => permP_lt hp _
theorem sqAt_lt (p label : Nat) (l : List Nat) (k : Nat) (hp : 0 < p) : sqAt p (absorbP p label l) k < p := by
  have h := perI_lt hp _ (absP_lt hp l ⟨0, 0, (label * 65536 % p + l.length) % p⟩ ⟨hp, hp, Nat.mod_lt _ hp⟩) (k / 2)
  show St.at_ _ (k % 2) < p
  unfold St.at_
  split
  · exact h.1
  · split
    · exact h.2.1
    · exact h.2.2
set_option maxRecDepth 100000 in
set_option maxHeartbeats 1000000 in
theorem codeSize_any (L : LayR) (w : World) (hL : LayOk L) :
    Calls Tryz.prog 76 #[.agg (layCs L)] w fun e w' => e = .returned (.agg #[.int .i64 (L.k : Int), .int .i64 ((L.k + L.block - 2 : Nat) : Int), .int .i64 ((L.block + 2 * L.queries - 1 : Nat) : Int)]) ∧ Below w.heap.size w w' := by
  have h1 := hL.b1
  have h2 := hL.b2
  have h3 := hL.q1
  have h4 := hL.q2
  have h5 := hL.k
  obtain ⟨x, hx⟩ : ∃ x, x = L.k + L.block - 2 := ⟨_, rfl⟩
  obtain ⟨y, hy⟩ : ∃ y, y = L.block + 2 * L.queries - 1 := ⟨_, rfl⟩
  rw [← hx, ← hy]
  have e1 : IntKind.i64.wrap ((L.k : Int) + (L.block : Int)) = (L.k : Int) + (L.block : Int) := wr_i64 _ (by omega) (by omega)
  have e2 : IntKind.i64.wrap ((L.k : Int) + (L.block : Int) - 2) = (x : Int) := by rw [wr_i64 _ (by omega) (by omega)]; omega
  have e3 : IntKind.i64.wrap (2 * (L.queries : Int)) = 2 * (L.queries : Int) := wr_i64 _ (by omega) (by omega)
  have e4 : IntKind.i64.wrap ((L.block : Int) + 2 * (L.queries : Int)) = (L.block : Int) + 2 * (L.queries : Int) := wr_i64 _ (by omega) (by omega)
  have e5 : IntKind.i64.wrap ((L.block : Int) + 2 * (L.queries : Int) - 1) = (y : Int) := by rw [wr_i64 _ (by omega) (by omega)]; omega
  clear h1 h2 h3 h4 h5 hx hy hL
  unfold layCs at *
  go_enter Tryz.func76, Tryz.ntmps76
  go_wp2_with fail
  exact bodyPost_ret (v := .agg #[.int .i64 (L.k : Int), .int .i64 (x : Int), .int .i64 (y : Int)]) (by simp [results, Tryz.results76, go_sem]) rfl ⟨rfl, ((Below.refl _ w).alloc (Nat.le_refl _) _).alloc (by simp) _⟩
set_option maxRecDepth 100000 in
set_option maxHeartbeats 1000000 in
theorem rsq25_any (p : Nat) (A : Option Addr) (n c m : Nat) (l : List Nat) (w : World) (hp : 0 < p) (hp2 : p < 18446744073709551616) (hl : RWd w [.slice A n c] l) (hne : 0 < l.length) (hlen : l.length ≤ 1000000) (hm : m ≤ 65536) :
    Calls Tryz.prog 97 #[.int .u64 p, .int .i64 (m : Int), .slice A n c] w fun e w' => ∃ v, e = .returned v ∧ w'.ownsRow w.heap.size 22 1 v m (U64 ((List.range m).map fun k => sqAt bigQ (absorbP bigQ 22 l) k % p)) ∧ Below w.heap.size w w' := by
  have HS := Lib.hid (rSqueeze_any bigQ 22 A n c m l w okBig hl hne hlen hm)
  have HB := Lib.hid (fun k => Nat.lt_trans (sqAt_lt bigQ 22 l k (by decide)) (show bigQ < 18446744073709551616 by decide))
  clear hl hne hlen
  generalize sqAt bigQ (absorbP bigQ 22 l) = fs at *
  unfold bigQ at HS
  go_enter Tryz.func97, Tryz.ntmps97
  go_wp2_with fail
  refine HS.out.mono ?_
  rintro e w1 ⟨v, rfl, hv, hb0⟩
  obtain ⟨A1, c1, rfl, hc1, hc2, hrd, -⟩ := own_form hv
  have hlw : RWd w1 [.slice A1 m c1] ((List.range m).map fs) := lw_own hv (fun x hx => by
    obtain ⟨k, _, rfl⟩ := List.mem_map.1 hx
    exact HB.out k)
  clear hv hrd
  go_wp2_with fail
  go_loopw [8, 9] (fun v y wr => ∃ i : Nat, i ≤ m ∧ y = .int .i64 (i : Int) ∧ wr.ownsRow w1.heap.size 22 1 v i (U64 ((List.range i).map fun k => fs k % p)) ∧ Below w1.heap.size w1 wr) (fun _ y _ => m - (intOf y).toNat)
  case atStart => exact ⟨0, Nat.zero_le _, rfl, own_empty _ _ (Nat.le_refl _), (Below.refl _ _).alloc (Nat.le_refl _) _⟩
  case round =>
    obtain ⟨i, hi, rfl, hown, hb1⟩ := hrel
    by_cases hlt : i < m
    · have g2 : (i : Int) < (m : Int) := by omega
      have g3 : (0 : Int) ≤ (i : Int) := by omega
      obtain ⟨-, -, -, -, hrd⟩ := lw_at (kept_RWd _ _ _ _ hb1 hlw)
      have hlen : ((List.range m).map fs).length = m := by simp
      have hrd : Rd wr 1 A1 ((List.range m).map fs).length (U64 ((List.range m).map fs)) := by rw [hlen]; exact hrd
      obtain ⟨b, q, rfl, hbl, hc⟩ := lw_get hrd (j := i) (by rw [hlen]; exact hlt)
      have hgi : ((List.range m).map fs).getD i 0 = fs i := by simp [hlt]
      rw [hgi] at hc
      obtain ⟨fi, hfi⟩ : ∃ fi, fi = fs i := ⟨_, rfl⟩
      obtain ⟨z, hz⟩ : ∃ z, z = fi % p := ⟨_, rfl⟩
      have HRS := Lib.hid (show ((List.range i).map fun k => fs k % p) ++ [z] = (List.range (i + 1)).map fun k => fs k % p by rw [hz, hfi]; exact range_snoc (fun k => fs k % p) _)
      rw [← hfi] at hc
      have hp0 : (p : Int) ≠ 0 := by omega
      have hp1 : ((p : Int) == 0) = false := by rw [beq_eq_false_iff_ne]; omega
      have e1 : (fi : Int) % (p : Int) = (z : Int) := by rw [hz]; exact (Int.natCast_emod _ _).symm
      have e2 : (fi : Int).tmod (p : Int) = (z : Int) := by rw [Int.tmod_eq_emod_of_nonneg (by omega)]; exact e1
      clear hfi hz hgi hlen hrd
      have hs1 := hb1.size
      go_wp2_with (at_builtin; refine wpl_append rfl _ _ rfl el_w rfl (hown.alloc _) rfl (rd_one _ _ _) (one_U64 [z]) (by omega) (by simp; omega) ?_)
      intro v' wn hown' hgrow hblk
      have hal := (Below.refl wr.heap.size wr).alloc (Nat.le_refl _) (.cells #[.int .u64 (z : Int)] 22)
      have hB := lw_grow (hown.alloc _) hgrow (by simp; have := hb1.size; omega)
      replace hb1 := (below_on hb1 hal hb1.size).trans hB
      replace hown' : wn.ownsRow w1.heap.size 22 1 v' (i + 1) (U64 ((List.range (i + 1)).map fun k => fs k % p)) := lw_app (a := (List.range i).map fun k => fs k % p) (b := [z]) hown' HRS.out
      clear hown hgrow hblk hal hB hc hbl hs1
      go_wp2
      go_roundw
      case rel => exact ⟨i + 1, by omega, by go_num, hown', hb1⟩
      case measure => simp [intOf]; omega
    · obtain rfl : i = m := by omega
      go_wp2
      go_ret
      exact ⟨_, rfl, own_base hown hb0.size, below_chain hb0 hb1⟩
def vecP (p s : Nat) (r : List Nat) (m : Nat) : List Nat := (List.range m).map (drawP p s r)
def rowsP (L : LayR) (s n : Nat) : List (List Nat) := (List.range n).map fun k => vecP L.p s [0, k] L.queries
theorem vecP_lt (p s : Nat) (r : List Nat) (m : Nat) (hp : 0 < p) (hp2 : p < 18446744073709551616) : ∀ x ∈ vecP p s r m, x < 18446744073709551616 := fun x hx => by
  obtain ⟨k, _, rfl⟩ := List.mem_map.1 hx
  exact Nat.lt_trans (Nat.mod_lt _ hp) hp2
theorem rowsP_next (L : LayR) (s k : Nat) : rowsP L s k ++ [vecP L.p s [0, k] L.queries] = rowsP L s (k + 1) := by simp [rowsP, List.range_succ]
theorem info_ww : (Tryz.prog.info? 28).map (fun i => (i.zero, i.size, i.bytes)) = some (some (.slice none 0 0), 1, 24) := by kernel_rfl
theorem el_ww : Elem Tryz.prog 40 28 1 24 (.slice none 0 0) := by
  obtain ⟨i0, hi, hz0, hz1, hz2⟩ := info_parts info_ww
  exact ⟨Tryz.underlying40, ⟨i0, hi, hz0, hz1, hz2⟩, rfl, by omega⟩
theorem rsqx_any (p s : Nat) (r : List Nat) (m g : Nat) (w : World) (hp : 0 < p) (hp2 : p < 18446744073709551616) (kg : Blk w g 22 (U64 (s % bigQ :: r)).toArray) (hr : ∀ x ∈ r, x < 18446744073709551616) (hlen : r.length ≤ 1000) (hm : m ≤ 65536) :
    Calls Tryz.prog 97 #[.int .u64 p, .int .i64 (m : Int), .slice (some ⟨g, 0, none⟩) (r.length + 1) (r.length + 1)] w fun e w' => ∃ v, e = .returned v ∧ w'.ownsRow w.heap.size 22 1 v m (U64 (vecP p s r m)) ∧ Below w.heap.size w w' := by
  have := rsq25_any p (some ⟨g, 0, none⟩) (s % bigQ :: r).length (s % bigQ :: r).length m (s % bigQ :: r) w hp hp2 (lw_lit kg (fun z hz => by
    rcases List.mem_cons.1 hz with rfl | h
    · exact Nat.lt_trans (Nat.mod_lt _ (by decide)) (show bigQ < 18446744073709551616 by decide)
    · exact hr z h) (by simp [maxLen]; omega)) (by simp) (by simp; omega) hm
  exact this
theorem set5_blk {w : World} {g : Nat} {t : TypeId} {y0 y1 y2 y3 y4 : Value} (k : Blk w g t #[y0, y1, y2, y3, y4]) (x0 x1 x2 x3 x4 : Value) : Blk (((((w.setCell ⟨g, 0, none⟩ x0).setCell ⟨g, 1, none⟩ x1).setCell ⟨g, 2, none⟩ x2).setCell ⟨g, 3, none⟩ x3).setCell ⟨g, 4, none⟩ x4) g t #[x0, x1, x2, x3, x4] := by
  have h := (((((k.set_ 0 x0).set_ 1 x1).set_ 2 x2).set_ 3 x3).set_ 4 x4)
  simpa using h
theorem set5_grown {w : World} {g : Nat} (x0 x1 x2 x3 x4 : Value) : w.grownBy (((((w.setCell ⟨g, 0, none⟩ x0).setCell ⟨g, 1, none⟩ x1).setCell ⟨g, 2, none⟩ x2).setCell ⟨g, 3, none⟩ x3).setCell ⟨g, 4, none⟩ x4) (some g) := by
  iterate 5 refine grown_setCell' ?_ (.inl rfl) _
  exact grown_refl' w _
end Go.Proofs.YtakjnmojigechaaGreat
