/-
  The document's polynomials: ref03.Trim, at, Add.
-/
import Derived.Test.YtefnagiffllhbaaGreatJQ12
import Derived.Test.YtefnagiffllhbaaGreatJQ7
import Derived.Test.YtefnagiffllhbaaGreatJQ6
import Derived.Test.YtefnagiffllhbaaGreatJQ15
import Derived.Test.YtefnagiffllhbaaGreatJQ18
import Derived.Test.YtefnagiffllhbaaGreatJQ10

/- Rt25 -/
namespace Go.Proofs.YtefnagiffllhbaaGreat
open Go.RowKit

set_option linter.unusedVariables false in
set_option maxRecDepth 100000 in
set_option maxHeartbeats 2000000 in
theorem right25_any (p : Nat) (pub vars : Int) (A B : Option Addr) (n c m d : Nat) (rows : List RowR) (ws : List Nat) (bl bw qs : Int) (w : World) (hr : RSl 3 RRow w [.slice A n c] rows) (hw : RWd w [.slice B m d] ws) (hp : p < 18446744073709551616) :
    Calls Tryz.prog 7 #[.agg (caseCs p pub vars (.slice A n c) bl bw qs (.slice B m d))] w fun e w' => (RightPost ⟨p, pub, vars, rows.length, bl, bw, qs⟩ e ∧ (∀ v, e = .returned (.tuple #[v, .bool true]) → tabOk p pub vars rows = true ∧ asgOk p vars ws = true)) ∧ Below w.heap.size w w' := by
  have HR := Lib.hid (fun w' (hb : Below w.heap.size w w') => rRight24_gen 40 p pub vars A B n c m d rows ws bl bw qs w' (kept_RSl kept_RRow _ _ _ _ hb hr) (kept_RWd _ _ _ _ hb hw) hp)
  obtain ⟨A', n', c', he, -⟩ := hr
  simp at he
  obtain ⟨rfl, rfl, rfl⟩ := he
  unfold caseCs at *
  have hb0 : Below w.heap.size w ((w.alloc (.cells #[.int .u64 (p : Int), .int .i64 pub, .int .i64 vars, .slice A n c, .int .i64 bl, .int .i64 bw, .int .i64 qs, .slice B m d] 30)).alloc (.cells #[.int .u64 0, .int .i64 0, .int .i64 0, .int .i64 0, .int .i64 0, .int .i64 0, .int .i64 0, .int .i64 0, .int .i64 0, .int .i64 0, .int .i64 0] 34)) := ((Below.refl _ w).alloc (Nat.le_refl _) _).alloc (by simp) _
  go_enter Tryz.func7, Tryz.ntmps7
  go_wp2_with fail
  refine (HR.out _ hb0).mono ?_
  rintro e w1 ⟨⟨hpost, htt⟩, hb⟩
  obtain ⟨k1, k2, hbw⟩ := two_boxes hb
  have l2 := k2.lt
  clear hb
  obtain ⟨y0, y1, y2, y3, y4, y5, y6, y7, y8, y9, y10, b, rfl, hL⟩ := hpost
  have HE := Lib.hid (show RightPost ⟨p, pub, vars, rows.length, bl, bw, qs⟩ (.returned (.tuple #[.agg #[.int .u64 y0, .int .i64 y1, .int .i64 y2, .int .i64 y3, .int .i64 y4, .int .i64 y5, .int .i64 y6, .int .i64 y7, .int .i64 y8, .int .i64 y9, .int .i64 y10], .bool b])) from ⟨_, _, _, _, _, _, _, _, _, _, _, _, rfl, hL⟩)
  have HT := Lib.hid htt
  clear hL htt
  obtain ⟨c2, f2⟩ := k2.cells'
  go_wp2_with fail
  have kW := set11_blk k2 (.int .u64 y0) (.int .i64 y1) (.int .i64 y2) (.int .i64 y3) (.int .i64 y4) (.int .i64 y5) (.int .i64 y6) (.int .i64 y7) (.int .i64 y8) (.int .i64 y9) (.int .i64 y10)
  have hW := set11_below (g := w.heap.size + 1) hbw (by omega) (.int .u64 y0) (.int .i64 y1) (.int .i64 y2) (.int .i64 y3) (.int .i64 y4) (.int .i64 y5) (.int .i64 y6) (.int .i64 y7) (.int .i64 y8) (.int .i64 y9) (.int .i64 y10)
  revert kW hW
  generalize ((((((((((World.setCell _ _ _).setCell _ _).setCell _ _).setCell _ _).setCell _ _).setCell _ _).setCell _ _).setCell _ _).setCell _ _).setCell _ _).setCell _ _ = wf
  intro kW hW
  have c4' := kW.cell
  exact bodyPost_ret (v := .tuple #[.agg #[.int .u64 y0, .int .i64 y1, .int .i64 y2, .int .i64 y3, .int .i64 y4, .int .i64 y5, .int .i64 y6, .int .i64 y7, .int .i64 y8, .int .i64 y9, .int .i64 y10], .bool b]) (by simp [results, Tryz.results7, go_sem, c4']) rfl ⟨⟨HE.out, HT.out⟩, hW⟩
end Go.Proofs.YtefnagiffllhbaaGreat

/- SamB -/
namespace Go.Proofs.YtefnagiffllhbaaGreat
open Go.RowKit

set_option maxRecDepth 100000 in
set_option maxHeartbeats 400000 in
theorem own_any (L : LayR) (w : World) :
    Calls Tryz.prog 12 #[.agg (layCs L)] w fun e w' => e = .returned (.agg (layCs L)) ∧ Below w.heap.size w w' := by
  unfold layCs
  go_enter Tryz.func12, Tryz.ntmps12
  go_wp2_with fail
  exact bodyPost_ret (v := .agg #[.int .u64 (L.p : Int), .int .i64 (L.block : Int), .int .i64 (L.queries : Int), .int .i64 (L.k : Int), .int .i64 (L.n : Int), .int .i64 (L.secret : Int), .int .i64 (L.rows : Int), .int .i64 (L.a : Int), .int .i64 (L.b : Int), .int .i64 (L.b : Int), .int .i64 (L.b : Int)]) (by simp [results, Tryz.results12, go_sem]) rfl ⟨rfl, ((Below.refl _ w).alloc (Nat.le_refl _) _).alloc (by simp) _⟩
end Go.Proofs.YtefnagiffllhbaaGreat

/- PoA -/
namespace Go.Proofs.YtefnagiffllhbaaGreat

/-- A list without the zeros at its end. -/
def trimZ : List Nat → List Nat
  | [] => []
  | x :: l => if trimZ l = [] ∧ x = 0 then [] else x :: trimZ l
theorem trimZ_snoc0 : ∀ l : List Nat, trimZ (l ++ [0]) = trimZ l
  | [] => rfl
  | x :: l => by
    rw [List.cons_append, trimZ, trimZ_snoc0 l]
    rfl
theorem trimZ_snoc {y : Nat} (hy : y ≠ 0) : ∀ l : List Nat, trimZ (l ++ [y]) = l ++ [y]
  | [] => by simp [trimZ, hy]
  | x :: l => by
    rw [List.cons_append, trimZ, trimZ_snoc hy l]
    simp
theorem trimZ_len : ∀ l : List Nat, (trimZ l).length ≤ l.length
  | [] => Nat.le_refl _
  | x :: l => by
    rw [trimZ]
    split
    · exact Nat.zero_le _
    · have := trimZ_len l
      simpa using this
theorem trimZ_get : ∀ (l : List Nat) (i : Nat), (trimZ l).getD i 0 = l.getD i 0
  | [], _ => rfl
  | x :: l, i => by
    rw [trimZ]
    split
    · rename_i h
      cases i with
      | zero => simp [h.2]
      | succ i =>
        have := trimZ_get l i
        rw [h.1] at this
        simpa using this
    · cases i with
      | zero => rfl
      | succ i => simpa using trimZ_get l i
theorem trimZ_mem {l : List Nat} {x : Nat} : x ∈ trimZ l → x ∈ l := by
  induction l with
  | nil => exact id
  | cons y l ih =>
    rw [trimZ]
    split
    · intro h; cases h
    · intro h
      rcases List.mem_cons.1 h with h | h
      · exact List.mem_cons.2 (.inl h)
      · exact List.mem_cons.2 (.inr (ih h))
theorem trimZ_id (l : List Nat) (h : trimZ l = []) : ∀ i, l.getD i 0 = 0 := fun i => by
  rw [← trimZ_get, h]
  simp

/-- ref03.Trim. -/
def trimP (p : Nat) (l : List Nat) : List Nat := trimZ (l.map (· % p))
/-- ref03.Add. -/
def addR (p : Nat) (a b : List Nat) (i : Nat) : Nat := (a.getD i 0 + b.getD i 0) % p
def addP (p : Nat) (a b : List Nat) : List Nat := trimP p ((List.range (max a.length b.length)).map (addR p a b))
/-- ref03.Scale. -/
def scaleP (p : Nat) (a : List Nat) (n : Nat) : List Nat := trimP p (a.map fun x => x * n % p)
/-- ref03.Shift. -/
def shiftP (a : List Nat) (n : Nat) : List Nat := List.replicate n 0 ++ a
/-- ref03.Mul, after k coefficients of a. -/
def mulK (p : Nat) (a b : List Nat) : Nat → List Nat
  | 0 => []
  | k + 1 => addP p (mulK p a b k) (shiftP (scaleP p b (a.getD k 0)) k)
def mulP (p : Nat) (a b : List Nat) : List Nat := mulK p a b a.length
/-- ref03.Eval, after k coefficients. -/
def evS (p : Nat) (a : List Nat) (f : Nat → Nat) : Nat → Nat
  | 0 => 0
  | k + 1 => (evS p a f k + a.getD k 0 * f k % p) % p
def powR (p x : Nat) : Nat → Nat
  | 0 => 1
  | k + 1 => powR p x k * x % p
def evalP (p : Nat) (a : List Nat) (x : Nat) : Nat := evS p a (powR p x) a.length
/-- ref25.Pad. -/
def padP (a : List Nat) (n : Nat) : List Nat := a ++ List.replicate (n - a.length) 0

theorem map_mod_get (p : Nat) (l : List Nat) (i : Nat) : (l.map (· % p)).getD i 0 = l.getD i 0 % p := by
  rw [List.getD_eq_getElem?_getD, List.getD_eq_getElem?_getD, List.getElem?_map]
  cases l[i]? <;> simp
theorem trimP_get (p : Nat) (l : List Nat) (i : Nat) : (trimP p l).getD i 0 = l.getD i 0 % p := by
  rw [trimP, trimZ_get, map_mod_get]
theorem trimP_lt {p : Nat} (hp : 0 < p) {l : List Nat} {x : Nat} (h : x ∈ trimP p l) : x < p := by
  obtain ⟨y, -, rfl⟩ := List.mem_map.1 (trimZ_mem h)
  exact Nat.mod_lt _ hp
theorem trimP_len (p : Nat) (l : List Nat) : (trimP p l).length ≤ l.length := by
  have := trimZ_len (l.map (· % p))
  simpa [trimP] using this
theorem range_get (f : Nat → Nat) (n i : Nat) : ((List.range n).map f).getD i 0 = if i < n then f i else 0 := by
  rw [List.getD_eq_getElem?_getD, List.getElem?_map]
  split
  · rename_i h
    rw [List.getElem?_range h]
    rfl
  · rename_i h
    rw [List.getElem?_eq_none (by simpa using h)]
    rfl
theorem getD_out {l : List Nat} {i : Nat} (h : l.length ≤ i) : l.getD i 0 = 0 := by
  rw [List.getD_eq_getElem?_getD, List.getElem?_eq_none h]
  rfl
theorem addP_get (p : Nat) (a b : List Nat) (i : Nat) : (addP p a b).getD i 0 = (a.getD i 0 + b.getD i 0) % p := by
  rw [addP, trimP_get, range_get]
  split
  · rw [addR, Nat.mod_mod]
  · rename_i h
    rw [getD_out (l := a) (by omega), getD_out (l := b) (by omega)]
theorem addP_len (p : Nat) (a b : List Nat) : (addP p a b).length ≤ max a.length b.length := by
  have := trimP_len p ((List.range (max a.length b.length)).map (addR p a b))
  simpa [addP] using this
theorem map_get0 (f : Nat → Nat) (h : f 0 = 0) (l : List Nat) (i : Nat) : (l.map f).getD i 0 = f (l.getD i 0) := by
  rw [List.getD_eq_getElem?_getD, List.getD_eq_getElem?_getD, List.getElem?_map]
  cases l[i]? <;> simp [h]
theorem scaleP_get (p : Nat) (a : List Nat) (n i : Nat) : (scaleP p a n).getD i 0 = a.getD i 0 * n % p := by
  rw [scaleP, trimP_get, map_get0 (fun x => x * n % p) (by simp), Nat.mod_mod]
theorem scaleP_len (p : Nat) (a : List Nat) (n : Nat) : (scaleP p a n).length ≤ a.length := by
  have := trimP_len p (a.map fun x => x * n % p)
  simpa [scaleP] using this
theorem shiftP_get (a : List Nat) (n i : Nat) : (shiftP a n).getD i 0 = if i < n then 0 else a.getD (i - n) 0 := by
  rw [shiftP, List.getD_eq_getElem?_getD]
  split
  · rename_i h
    rw [List.getElem?_append_left (by simpa using h)]
    simp [h]
  · rename_i h
    rw [List.getElem?_append_right (by simpa using h), List.getD_eq_getElem?_getD, List.length_replicate]
theorem shiftP_len (a : List Nat) (n : Nat) : (shiftP a n).length = n + a.length := by simp [shiftP]
theorem mulK_len (p : Nat) (a b : List Nat) : ∀ k, (mulK p a b (k + 1)).length ≤ k + b.length
  | 0 => by
    have h1 := addP_len p (mulK p a b 0) (shiftP (scaleP p b (a.getD 0 0)) 0)
    have h3 := scaleP_len p b (a.getD 0 0)
    rw [shiftP_len] at h1
    have h0 : (mulK p a b 0).length = 0 := rfl
    rw [h0] at h1
    rw [mulK]
    omega
  | k + 1 => by
    have h1 := addP_len p (mulK p a b (k + 1)) (shiftP (scaleP p b (a.getD (k + 1) 0)) (k + 1))
    have h2 := mulK_len p a b k
    have h3 := scaleP_len p b (a.getD (k + 1) 0)
    rw [shiftP_len] at h1
    rw [mulK]
    omega
theorem mulP_len (p : Nat) (a b : List Nat) : (mulP p a b).length ≤ a.length - 1 + b.length := by
  rw [mulP]
  cases h : a.length with
  | zero => exact Nat.zero_le _
  | succ k => exact mulK_len p a b k
/-- Where the first factor is zero nothing is added (up to the zeros at the end). -/
theorem mulK_get_zero {p : Nat} (a b : List Nat) (k i : Nat) (h : a.getD k 0 = 0) : (mulK p a b (k + 1)).getD i 0 = (mulK p a b k).getD i 0 % p := by
  rw [mulK, addP_get, shiftP_get, scaleP_get, h]
  split <;> simp
theorem mulK_lt {p : Nat} (hp : 0 < p) (a b : List Nat) (k i : Nat) : (mulK p a b k).getD i 0 < p := by
  cases k with
  | zero => simpa [mulK] using hp
  | succ k => rw [mulK, addP_get]; exact Nat.mod_lt _ hp
theorem padP_get (a : List Nat) (n i : Nat) : (padP a n).getD i 0 = a.getD i 0 := by
  rw [padP, List.getD_eq_getElem?_getD, List.getD_eq_getElem?_getD]
  by_cases h : i < a.length
  · rw [List.getElem?_append_left h]
  · rw [List.getElem?_append_right (by omega), List.getElem?_eq_none (l := a) (by omega), List.getElem?_replicate]
    split <;> rfl
theorem padP_len (a : List Nat) (n : Nat) : (padP a n).length = max n a.length := by
  simp [padP]
  omega
/-- Two lists of one length with the same elements. -/
theorem list_ext0 {a b : List Nat} (hl : a.length = b.length) (h : ∀ i, i < a.length → a.getD i 0 = b.getD i 0) : a = b := by
  apply List.ext_getElem hl
  intro i h1 h2
  have := h i h1
  rw [List.getD_eq_getElem?_getD, List.getD_eq_getElem?_getD, List.getElem?_eq_getElem h1, List.getElem?_eq_getElem h2] at this
  exact this
theorem mem_of_getD {l : List Nat} {B : Nat} (h : ∀ i, l.getD i 0 < B) : ∀ x ∈ l, x < B := fun x hx => by
  obtain ⟨i, hi, rfl⟩ := List.getElem_of_mem hx
  have := h i
  rwa [List.getD_eq_getElem?_getD, List.getElem?_eq_getElem hi] at this
end Go.Proofs.YtefnagiffllhbaaGreat

/- RoA -/
namespace Go.Proofs.YtefnagiffllhbaaGreat
open Go.RowKit

set_option maxRecDepth 100000 in
set_option maxHeartbeats 1000000 in
theorem rReduce_any (p a : Nat) (w : World) (hp : okP p = true) :
    Calls Tryz.prog 124 #[.int .u64 p, .int .u64 a] w fun e w' => e = .returned (.int .u64 ((a % p : Nat) : Int)) ∧ Below w.heap.size w w' := by
  obtain ⟨hp1, hp2⟩ := okP_lt hp
  have HO := Lib.hid (fun w => by have := rValidP_any p w hp2; rw [hp] at this; exact this)
  have p1 : (0 : Int) < (p : Int) := by omega
  have p3 : ¬ (p = 0) := by omega
  have e1 : (a : Int) % (p : Int) = ((a % p : Nat) : Int) := rfl
  have e2 : (a : Int).tmod (p : Int) = ((a % p : Nat) : Int) := rfl
  clear hp hp1 hp2
  generalize a % p = r at *
  go_enter Tryz.func124, Tryz.ntmps124
  go_wp2_with fail
  refine (HO.out _).mono ?_
  rintro e w1 ⟨rfl, hb0⟩
  go_wp2
  go_ret
  exact ⟨rfl, hb0⟩

set_option maxRecDepth 100000 in
set_option maxHeartbeats 1000000 in
theorem rNeg_any (p a : Nat) (w : World) (hp : okP p = true) :
    Calls Tryz.prog 99 #[.int .u64 p, .int .u64 a] w fun e w' => e = .returned (.int .u64 (negP p a : Int)) ∧ Below w.heap.size w w' := by
  obtain ⟨hp1, hp2⟩ := okP_lt hp
  have HA := Lib.hid (fun w => rReduce_any p a w hp)
  have hx : a % p < p := Nat.mod_lt _ (by omega)
  have HN := Lib.hid (show negP p a = if a % p = 0 then 0 else p - a % p from rfl)
  clear hp
  generalize negP p a = r at *
  generalize a % p = x at *
  by_cases h0 : x = 0
  · have HR := Lib.hid (show r = 0 by rw [HN.out, if_pos h0])
    subst h0
    go_enter Tryz.func99, Tryz.ntmps99
    go_wp2_with fail
    refine (HA.out _).mono ?_
    rintro e' w1 ⟨rfl, hb1⟩
    go_wp2
    go_ret
    exact ⟨by rw [HR.out]; rfl, hb1⟩
  · have HR := Lib.hid (show r = p - x by rw [HN.out, if_neg h0])
    have d1 : ((x : Int) == 0) = false := by rw [beq_eq_false_iff_ne]; omega
    have e1 : IntKind.u64.wrap ((p : Int) - (x : Int)) = ((p - x : Nat) : Int) := wr_sub p x (by omega) hp2
    rw [HR.out]
    clear hx hp1 hp2 h0 HR HN
    generalize p - x = z at *
    go_enter Tryz.func99, Tryz.ntmps99
    go_wp2_with fail
    refine (HA.out _).mono ?_
    rintro e' w1 ⟨rfl, hb1⟩
    go_wp2
    go_ret
    exact ⟨rfl, hb1⟩

set_option maxRecDepth 100000 in
set_option maxHeartbeats 1000000 in
theorem rSub_any (p a b : Nat) (w : World) (hp : okP p = true) :
    Calls Tryz.prog 50 #[.int .u64 p, .int .u64 a, .int .u64 b] w fun e w' => e = .returned (.int .u64 (((a + negP p b) % p : Nat) : Int)) ∧ Below w.heap.size w w' := by
  have HN := Lib.hid (fun w => rNeg_any p b w hp)
  have HS := Lib.hid (fun w => rAdd_any p a (negP p b) w hp)
  clear hp
  generalize (a + negP p b) % p = r at *
  generalize negP p b = x at *
  go_enter Tryz.func50, Tryz.ntmps50
  go_wp2_with fail
  refine (HN.out _).mono ?_
  rintro e' w1 ⟨rfl, hb1⟩
  go_wp2_with fail
  refine (HS.out _).mono ?_
  rintro e' w2 ⟨rfl, hb2⟩
  go_wp2
  go_ret
  exact ⟨rfl, below_on hb1 hb2 hb1.size⟩

set_option maxRecDepth 100000 in
set_option maxHeartbeats 1000000 in
theorem rInv_any (p a : Nat) (w : World) (hp : okP p = true) :
    Calls Tryz.prog 67 #[.int .u64 p, .int .u64 a] w fun e w' => e = .returned (.int .u64 ((a ^ (p - 2) % p : Nat) : Int)) ∧ Below w.heap.size w w' := by
  obtain ⟨hp1, hp2⟩ := okP_lt hp
  have HO := Lib.hid (fun w => by have := rValidP_any p w hp2; rw [hp] at this; exact this)
  have HS := Lib.hid (fun w => rPow_any p a (p - 2) w hp (by omega))
  have e1 : IntKind.u64.wrap ((p : Int) - 2) = ((p - 2 : Nat) : Int) := wr_sub p 2 (by omega) hp2
  clear hp hp1 hp2
  generalize a ^ (p - 2) % p = r at *
  generalize p - 2 = m at *
  go_enter Tryz.func67, Tryz.ntmps67
  go_wp2_with fail
  refine (HO.out _).mono ?_
  rintro e w1 ⟨rfl, hb1⟩
  go_wp2_with fail
  refine (HS.out _).mono ?_
  rintro e' w2 ⟨rfl, hb2⟩
  go_wp2
  go_ret
  exact ⟨rfl, below_on hb1 hb2 hb1.size⟩

set_option maxRecDepth 100000 in
set_option maxHeartbeats 1000000 in
theorem rRoot_any (p n : Nat) (w : World) (hp : okP p = true) (hn : LenOk p n) :
    Calls Tryz.prog 94 #[.int .u64 p, .int .i64 (n : Int)] w fun e w' => e = .returned (.tuple #[.int .u64 (rootP p n : Int), .bool true]) ∧ Below w.heap.size w w' := by
  obtain ⟨h1, h2, ⟨j, hj⟩, h4⟩ := hn
  obtain ⟨hp1, hp2⟩ := okP_lt hp
  have HV := Lib.hid (fun w => by have := rValidP_any p w hp2; rw [hp] at this; exact this)
  have HG := Lib.hid (fun w => rGen_any p w hp)
  obtain ⟨pm, hpm⟩ : ∃ pm, pm = p - 1 := ⟨_, rfl⟩
  obtain ⟨m, hm⟩ : ∃ m, m = pm / n := ⟨_, rfl⟩
  have HP := Lib.hid (fun w => rPow_any p (rowOf p).1 m w hp (by rw [hm]; exact Nat.lt_of_le_of_lt (Nat.div_le_self _ _) (by omega)))
  have hR : rootP p n = (rowOf p).1 ^ m % p := by unfold rootP; rw [hm, hpm]
  rw [hR]
  have ep : IntKind.u64.wrap ((p : Int) - 1) = (pm : Int) := by rw [hpm]; exact wr_sub p 1 (by omega) hp2
  have en : IntKind.u64.wrap (n : Int) = (n : Int) := wr_nat _ (by omega)
  have em : IntKind.u64.wrap (m : Int) = (m : Int) := wr_nat _ (by rw [hm]; exact Nat.lt_of_le_of_lt (Nat.div_le_self _ _) (by omega))
  have r1 : (pm : Int) % (n : Int) = 0 := by rw [hpm]; omega
  have r2 : (pm : Int).tmod (n : Int) = 0 := by rw [Int.tmod_eq_emod_of_nonneg (by omega)]; exact r1
  have r3 : (pm : Int) / (n : Int) = (m : Int) := by rw [hm]; rfl
  have r4 : (pm : Int).tdiv (n : Int) = (m : Int) := by rw [hm]; rfl
  have n0 : ¬ ((n : Int) = 0) := by omega
  have n5 : ¬ (n = 0) := by omega
  have n1 : (1 : Int) ≤ (n : Int) := by omega
  have n2 : ((n : Int) == 0) = false := by rw [beq_eq_false_iff_ne]; exact n0
  have n4 : (n : Int) ≤ 4096 := by omega
  have HJ := Lib.hid hj
  clear hR hm hp1 hp2 h1 h2 hj h4 hp hpm
  generalize (rowOf p).1 = gn at *
  generalize gn ^ m % p = r at *
  go_enter Tryz.func94, Tryz.ntmps94
  go_wp2_with fail
  refine (HV.out _).mono ?_
  rintro e' w1 ⟨rfl, hb1⟩
  go_wp2_with fail
  go_loopw [6] (fun x wr => ∃ i k : Nat, x = .int .i64 (k : Int) ∧ Hid (k = 2 ^ i) ∧ 1 ≤ k ∧ k ≤ 4096 ∧ Below w.heap.size w wr) (fun x _ => (intOf x).toNat)
  case atStart => exact ⟨j, n, rfl, HJ, by omega, by omega, hb1⟩
  case round =>
    clear hb1
    obtain ⟨i, k, rfl, HK, hk1, hk2, hb⟩ := hrel
    by_cases hi : k = 1
    · subst hi
      go_upto_region 8 with fail
      refine wpGO_begin (Later) (later_moves) [] [] [0, 1, 2, 3, 4, 5, 6, 7, 8, 9, 10] (by kernel_rfl) (by kernel_rfl) ?_
      refine wpGO_start (later_moves) ?_
      intro Wc hacc
      repeat (first | (refine wpGO_skip (later_moves) rfl rfl rfl rfl (fun _ _ _ h => h) ?_ ; simp only [Act.put, List.setIfInBounds_toArray, List.set_cons_zero, List.set_cons_succ]) | (refine wpGO_light (v := ?_) (later_moves) rfl rfl rfl rfl (fun _ _ _ h => h) ?_ ?_ ; rotate_left ; (· (intro w' hR ; (first | have hcells := later_cellsD ((later_moves).trans _ _ _ hacc hR) | skip) ; go_simp ; try with_reducible rfl)) ; simp only [Act.put, List.setIfInBounds_toArray, List.set_cons_zero, List.set_cons_succ]))
      refine wpGO_call (later_moves) rfl rfl rfl rfl (fun _ _ _ h => h) (fun _ => by go_simp <;> rfl) (fun w' hR => HG.out _) ?_
      simp only [Act.put, List.setIfInBounds_toArray, List.set_cons_zero, List.set_cons_succ]
      repeat (first | (refine wpGO_skip (later_moves) rfl rfl rfl rfl (fun _ _ _ h => h) ?_ ; simp only [Act.put, List.setIfInBounds_toArray, List.set_cons_zero, List.set_cons_succ]) | (refine wpGO_light (v := ?_) (later_moves) rfl rfl rfl rfl (fun _ _ _ h => h) ?_ ?_ ; rotate_left ; (· (intro w' hR ; (first | have hcells := later_cellsD ((later_moves).trans _ _ _ hacc hR) | skip) ; go_simp ; try with_reducible rfl)) ; simp only [Act.put, List.setIfInBounds_toArray, List.set_cons_zero, List.set_cons_succ]))
      refine wpGO_call (later_moves) rfl rfl rfl rfl (fun _ _ _ h => h) (fun _ => by go_simp <;> rfl) (fun w' hR => HP.out _) ?_
      simp only [Act.put, List.setIfInBounds_toArray, List.set_cons_zero, List.set_cons_succ]
      repeat (first | (refine wpGO_skip (later_moves) rfl rfl rfl rfl (fun _ _ _ h => h) ?_ ; simp only [Act.put, List.setIfInBounds_toArray, List.set_cons_zero, List.set_cons_succ]) | (refine wpGO_light (v := ?_) (later_moves) rfl rfl rfl rfl (fun _ _ _ h => h) ?_ ?_ ; rotate_left ; (· (intro w' hR ; (first | have hcells := later_cellsD ((later_moves).trans _ _ _ hacc hR) | skip) ; go_simp ; try with_reducible rfl)) ; simp only [Act.put, List.setIfInBounds_toArray, List.set_cons_zero, List.set_cons_succ]))
      refine wpGO_done rfl ?_
      intro wd hRd
      replace hacc := (later_moves).trans _ _ _ hacc hRd
      clear hRd
      go_wp2
      go_ret2
      exact ⟨rfl, below_chain hb.drew hacc⟩
    · obtain ⟨f, hf⟩ : ∃ f, f = k / 2 := ⟨_, rfl⟩
      have hk0 : k % 2 = 0 := by
        have := HK.out
        cases i with
        | zero => omega
        | succ i => rw [this, Nat.pow_succ]; omega
      have HF : Hid (f = 2 ^ (i - 1)) := by
        have := HK.out
        cases i with
        | zero => omega
        | succ i => exact Lib.hid (by rw [hf, this, Nat.pow_succ, Nat.add_sub_cancel]; omega)
      have e1 : (k : Int) / 2 = (f : Int) := by omega
      have e2 : (k : Int).tdiv 2 = (f : Int) := by rw [Int.tdiv_eq_ediv_of_nonneg (by omega)]; exact e1
      have e3 : (k : Int) % 2 = 0 := by omega
      have e4 : (k : Int).tmod 2 = 0 := by rw [Int.tmod_eq_emod_of_nonneg (by omega)]; exact e3
      have hf1 : 1 ≤ f := by omega
      have hf2 : f < k := by omega
      clear hf hk0
      go_wp2
      go_roundw
      case rel => exact ⟨i - 1, f, rfl, HF, hf1, by omega, hb⟩
      case measure => simp [intOf]; omega
end Go.Proofs.YtefnagiffllhbaaGreat

/- PoB -/
namespace Go.Proofs.YtefnagiffllhbaaGreat
open Go.RowKit

theorem rd_less {w : World} {A : Option Addr} {n k : Nat} {l : List Nat} (h : Rd w 1 A n (U64 l)) (hk : k ≤ n) : Rd w 1 A k (U64 (l.take k)) := by
  have hl : (U64 l).length = n * 1 := h.1
  refine ⟨by rw [len_U64] at hl ⊢; simp; omega, fun h0 => ?_⟩
  obtain ⟨ad, e, hc⟩ := h.2 (by omega)
  refine ⟨ad, e, fun j u hj => hc j u ?_⟩
  have : U64 (l.take k) = (U64 l).take k := by simp [U64, List.map_take]
  rw [this, List.getElem?_take] at hj
  split at hj
  · exact hj
  · cases hj
theorem trimZ_step {L : List Nat} {j : Nat} (hj : j < L.length) (h0 : L.getD j 0 = 0) : trimZ (L.take (j + 1)) = trimZ (L.take j) := by
  rw [lw_snoc L j hj, h0, trimZ_snoc0]
theorem trimZ_stop {L : List Nat} {j : Nat} (hj : j < L.length) (h0 : L.getD j 0 ≠ 0) : trimZ (L.take (j + 1)) = L.take (j + 1) := by
  rw [lw_snoc L j hj, trimZ_snoc h0]
theorem map_snoc {l : List Nat} (f : Nat → Nat) {k : Nat} (h : k < l.length) : (l.take k).map f ++ [f (l.getD k 0)] = (l.take (k + 1)).map f := by
  rw [lw_snoc l k h, List.map_append]
  rfl

set_option maxRecDepth 100000 in
set_option maxHeartbeats 1000000 in
theorem rTrim_any (p : Nat) (A : Option Addr) (n c : Nat) (l : List Nat) (w : World) (hp : okP p = true) (hl : RWd w [.slice A n c] l) (hn : n ≤ 100000) :
    Calls Tryz.prog 90 #[.int .u64 p, .slice A n c] w fun e w' => ∃ v, e = .returned v ∧ RWd w' [v] (trimP p l) ∧ Below w.heap.size w w' := by
  obtain ⟨rfl, h1, h2, hlt, hrd⟩ := lw_at hl
  obtain ⟨hp1, hp2⟩ := okP_lt hp
  have HA := Lib.hid (fun a w => rReduce_any p a w hp)
  have HM := Lib.hid (show ∀ x ∈ l.map (· % p), x < 18446744073709551616 from fun x hx => by obtain ⟨y, -, rfl⟩ := List.mem_map.1 hx; exact Nat.lt_trans (Nat.mod_lt _ (by omega)) hp2)
  have HT := Lib.hid (show trimP p l = trimZ (l.map (· % p)) from rfl)
  rw [HT.out]
  obtain ⟨L, hL⟩ : ∃ L, L = l.map (· % p) := ⟨_, rfl⟩
  have HLN := Lib.hid (show L.length = l.length by rw [hL]; simp)
  have HLG := Lib.hid (show ∀ k, L.getD k 0 = l.getD k 0 % p from fun k => by rw [hL]; exact map_mod_get p l k)
  rw [← hL] at HM ⊢
  clear hl h1 h2 hp hlt hp1 hp2 hL HT
  go_enter Tryz.func90, Tryz.ntmps90
  go_wp2_with fail
  go_loopw [5, 6] (fun v i wr => ∃ k : Nat, k ≤ l.length ∧ i = .int .i64 (k : Int) ∧ wr.ownsRow w.heap.size 22 1 v k (U64 (L.take k)) ∧ Below w.heap.size w wr) (fun _ i _ => l.length - (intOf i).toNat)
  case atStart => exact ⟨0, Nat.zero_le _, rfl, ⟨rfl, .inl ⟨rfl, rfl⟩⟩, Below.refl _ _⟩
  case round =>
    obtain ⟨k, hk, rfl, hown, hb⟩ := hrel
    by_cases hlt : k < l.length
    · obtain ⟨b, q, rfl, hbl, hc⟩ := lw_get (hrd.below hb) hlt
      have HF := Lib.hid (lw_snoc L k (by rw [HLN.out]; exact hlt)).symm
      have HG := Lib.hid (HLG.out k)
      obtain ⟨x, hx⟩ : ∃ x, x = l.getD k 0 := ⟨_, rfl⟩
      obtain ⟨z, hz⟩ : ∃ z, z = L.getD k 0 := ⟨_, rfl⟩
      rw [← hx] at hc HG
      rw [← hz] at HF HG
      have HA1 := Lib.hid (fun w => by have := HA.out x w; rw [← HG.out] at this; exact this)
      clear hx hz HG
      go_wp2_with fail
      refine (HA1.out _).mono ?_
      rintro e w2 ⟨rfl, hbx⟩
      replace hb := below_chain hb hbx
      replace hown := own_below hown hbx (Nat.le_refl _)
      clear hbx
      go_wp2_with (at_builtin; refine wpl_append rfl _ _ rfl el_w rfl (hown.alloc _) rfl (rd_one _ _ _) (one_U64 [z]) (by omega) (by simp; have := hb.size; omega) ?_)
      intro v' wn hown' hgrow hblk
      have hal := (Below.refl w2.heap.size w2).alloc (Nat.le_refl _) (.cells #[.int .u64 (z : Int)] 22)
      have hB := lw_grow (hown.alloc _) hgrow (by simp; have := hb.size; omega)
      replace hb := (below_on hb hal hb.size).trans hB
      replace hown : wn.ownsRow w.heap.size 22 1 v' (k + 1) (U64 (L.take (k + 1))) := lw_app (b := [z]) hown' HF.out
      clear hown' hgrow hblk hal hB
      go_wp2
      go_roundw
      case rel => exact ⟨k + 1, by omega, by go_num, hown, hb⟩
      case measure => simp [intOf]; omega
    · obtain rfl : k = l.length := by omega
      rw [List.take_of_length_le (by have := HLN.out; omega)] at hown
      obtain ⟨A1, c1, rfl, hc1, hc2, hrd1, -⟩ := own_form hown
      clear hown hrd
      have hrd2 : Rd wr 1 A1 L.length (U64 L) := by rw [HLN.out]; exact hrd1
      clear hrd1 hk hlt
      obtain ⟨w1, hw1⟩ : ∃ w1, w1 = wr := ⟨_, rfl⟩
      rw [← hw1] at hb hrd2
      have HW := Lib.hid hw1
      clear hw1
      go_wp2_with fail
      go_loopw [5] (fun v wr => ∃ k : Nat, k ≤ l.length ∧ v = .slice A1 k c1 ∧ Hid (trimZ (L.take k) = trimZ L) ∧ Below w1.heap.size w1 wr) (fun v _ => match v with | .slice _ n _ => n | _ => 0)
      case atStart => exact ⟨l.length, Nat.le_refl _, rfl, Lib.hid (by rw [List.take_of_length_le (by have := HLN.out; omega)]), by rw [HW.out]; exact Below.refl _ _⟩
      case round =>
        obtain ⟨k, hk, rfl, HZ, hb1⟩ := hrel
        rcases Nat.eq_zero_or_pos k with h0 | h0
        · subst h0
          go_wp2
          go_ret
          refine ⟨_, rfl, ?_, below_chain hb hb1⟩
          have hz : trimZ L = [] := by rw [← HZ.out]; rfl
          rw [hz]
          exact ⟨A1, 0, c1, rfl, Nat.zero_le _, hc2, ⟨rfl, fun h => absurd h (by omega)⟩, fun x hx => by cases hx⟩
        · obtain ⟨j, hj⟩ : ∃ j, j = k - 1 := ⟨_, rfl⟩
          have hjL : j < L.length := by have := HLN.out; omega
          obtain ⟨b, q, rfl, hbl, hc⟩ := lw_get (hrd2.below hb1) hjL
          obtain ⟨x, hx⟩ : ∃ x, x = L.getD j 0 := ⟨_, rfl⟩
          rw [← hx] at hc
          have HX := Lib.hid hx
          have HJ := Lib.hid hj
          have g1 : (0 : Int) < (k : Int) := by omega
          have g2 : (k : Int) - 1 = (j : Int) := by omega
          have g3 : IntKind.i64.wrap (j : Int) = (j : Int) := wr_i64 _ (by omega) (by omega)
          have g4 : (j : Int) < (k : Int) := by omega
          have g5 : j < k := by omega
          have g6 : j ≤ c1 := by omega
          have g7 : k ≤ c1 := by omega
          clear hx hj
          by_cases hx0 : x = 0
          · subst hx0
            go_wp2
            go_roundw
            case rel => exact ⟨j, by omega, rfl, Lib.hid (by rw [← HZ.out, show k = j + 1 by have := HJ.out; omega, trimZ_step hjL HX.out.symm]), hb1⟩
            case measure => simp; omega
          · have d0 : ((x : Int) == 0) = false := by rw [beq_eq_false_iff_ne]; omega
            go_wp2
            go_ret
            refine ⟨_, rfl, ?_, below_chain hb hb1⟩
            have hk1 : k = j + 1 := by have := HJ.out; omega
            have hz : trimZ L = L.take k := by rw [← HZ.out, hk1, trimZ_stop hjL (by rw [← HX.out]; exact hx0)]
            rw [hz]
            exact ⟨_, k, c1, rfl, g7, hc2, rd_less (hrd2.below hb1) (by have := HLN.out; omega), fun y hy => HM.out y (List.mem_of_mem_take hy)⟩

set_option maxRecDepth 100000 in
set_option maxHeartbeats 1000000 in
theorem rAt_any (A : Option Addr) (n c i : Nat) (l : List Nat) (w : World) (hl : RWd w [.slice A n c] l) :
    Calls Tryz.prog 89 #[.slice A n c, .int .i64 (i : Int)] w fun e w' => e = .returned (.int .u64 ((l.getD i 0 : Nat) : Int)) ∧ Below w.heap.size w w' := by
  obtain ⟨rfl, h1, h2, hlt, hrd⟩ := lw_at hl
  clear hl h2 hlt
  by_cases hi : i < l.length
  · obtain ⟨b, q, rfl, hbl, hc⟩ := lw_get hrd hi
    generalize l.getD i 0 = x at *
    have g1 : (i : Int) < (l.length : Int) := by omega
    have g2 : ¬ ((l.length : Int) ≤ (i : Int)) := by omega
    clear hrd
    go_enter Tryz.func89, Tryz.ntmps89
    go_wp2
    go_ret
    exact ⟨rfl, Below.refl _ _⟩
  · have g2 : (l.length : Int) ≤ (i : Int) := by omega
    have HX := Lib.hid (getD_out (l := l) (i := i) (by omega))
    clear hrd
    rw [HX.out]
    go_enter Tryz.func89, Tryz.ntmps89
    go_wp2
    go_ret
    exact ⟨rfl, Below.refl _ _⟩

theorem addR_lt {p : Nat} (hp : 0 < p) (a b : List Nat) (i : Nat) : addR p a b i < p := Nat.mod_lt _ hp

set_option maxRecDepth 100000 in
set_option maxHeartbeats 1000000 in
theorem rAddP_any (p : Nat) (A B : Option Addr) (n c m d : Nat) (a b : List Nat) (w : World) (hp : okP p = true) (ha : RWd w [.slice A n c] a) (hb' : RWd w [.slice B m d] b) (hn : n ≤ 100000) (hm : m ≤ 100000) :
    Calls Tryz.prog 42 #[.int .u64 p, .slice A n c, .slice B m d] w fun e w' => ∃ v, e = .returned v ∧ RWd w' [v] (addP p a b) ∧ Below w.heap.size w w' := by
  obtain ⟨rfl, -, -, -, -⟩ := lw_at ha
  obtain ⟨rfl, -, -, -, -⟩ := lw_at hb'
  obtain ⟨hp1, hp2⟩ := okP_lt hp
  have HA := Lib.hid (fun i w' (hb : Below w.heap.size w w') => rAt_any A a.length c i a w' (kept_RWd _ _ _ _ hb ha))
  have HB := Lib.hid (fun i w' (hb : Below w.heap.size w w') => rAt_any B b.length d i b w' (kept_RWd _ _ _ _ hb hb'))
  have HS := Lib.hid (fun x y w => rAdd_any p x y w hp)
  have HT := Lib.hid (fun A n c l w hl hn => rTrim_any p A n c l w hp hl hn)
  have HL := Lib.hid (show ∀ N, ∀ x ∈ (List.range N).map (addR p a b), x < 18446744073709551616 from fun N x hx => by obtain ⟨y, -, rfl⟩ := List.mem_map.1 hx; exact Nat.lt_trans (addR_lt (by omega) a b y) hp2)
  obtain ⟨t, ht⟩ : ∃ t, t = max a.length b.length := ⟨_, rfl⟩
  have HE := Lib.hid (show addP p a b = trimP p ((List.range t).map (addR p a b)) by rw [ht]; rfl)
  rw [HE.out]
  have HN := Lib.hid (fun k => range_snoc (addR p a b) k)
  have HR := Lib.hid (fun k => show addR p a b k = (a.getD k 0 + b.getD k 0) % p from rfl)
  clear ha hb' hp hp1 hp2 HE
  generalize addR p a b = f at *
  go_enter Tryz.func42, Tryz.ntmps42
  go_wp2_with fail
  go_loopw [7, 8] (fun v i wr => ∃ k : Nat, k ≤ t ∧ i = .int .i64 (k : Int) ∧ wr.ownsRow w.heap.size 22 1 v k (U64 ((List.range k).map f)) ∧ Below w.heap.size w wr) (fun _ i _ => t - (intOf i).toNat)
  case atStart => exact ⟨0, Nat.zero_le _, rfl, ⟨rfl, .inl ⟨rfl, rfl⟩⟩, Below.refl _ _⟩
  case round =>
    obtain ⟨k, hk, rfl, hown, hb⟩ := hrel
    by_cases hlt : k < t
    · have HA1 := Lib.hid (fun w => HA.out k w)
      have HB1 := Lib.hid (fun w => HB.out k w)
      have HR1 := Lib.hid (HR.out k)
      generalize a.getD k 0 = x at *
      generalize b.getD k 0 = y at *
      have HN1 := Lib.hid (HN.out k)
      obtain ⟨z, hz⟩ : ∃ z, z = f k := ⟨_, rfl⟩
      have HS1 := Lib.hid (fun w => by have := HS.out x y w; rw [← HR1.out, ← hz] at this; exact this)
      rw [← hz] at HN1
      clear hz HR1
      rcases (show k < a.length ∨ (¬ k < a.length ∧ k < b.length) by omega) with h | ⟨h, h'⟩
      · have g1 : (k : Int) < (a.length : Int) := by omega
        clear ht
        go_wp2_with fail
        refine (HA1.out _ hb).mono ?_
        rintro e w2 ⟨rfl, hbx⟩
        replace hb := below_chain hb hbx
        replace hown := own_below hown hbx (Nat.le_refl _)
        clear hbx
        go_wp2_with fail
        refine (HB1.out _ hb).mono ?_
        rintro e w3 ⟨rfl, hbx⟩
        replace hb := below_chain hb hbx
        replace hown := own_below hown hbx (Nat.le_refl _)
        clear hbx
        go_wp2_with fail
        refine (HS1.out _).mono ?_
        rintro e w4 ⟨rfl, hbx⟩
        replace hb := below_chain hb hbx
        replace hown := own_below hown hbx (Nat.le_refl _)
        clear hbx
        go_wp2_with (at_builtin; refine wpl_append rfl _ _ rfl el_w rfl (hown.alloc _) rfl (rd_one _ _ _) (one_U64 [z]) (by omega) (by simp; have := hb.size; omega) ?_)
        intro v' wn hown' hgrow hblk
        have hal := (Below.refl w4.heap.size w4).alloc (Nat.le_refl _) (.cells #[.int .u64 (z : Int)] 22)
        have hB := lw_grow (hown.alloc _) hgrow (by simp; have := hb.size; omega)
        replace hb := (below_on hb hal hb.size).trans hB
        replace hown : wn.ownsRow w.heap.size 22 1 v' (k + 1) (U64 ((List.range (k + 1)).map f)) := lw_app (b := [z]) hown' HN1.out
        clear hown' hgrow hblk hal hB
        go_wp2
        go_roundw
        case rel => exact ⟨k + 1, by omega, by go_num, hown, hb⟩
        case measure => simp [intOf]; omega
      · have g1 : ¬ ((k : Int) < (a.length : Int)) := by omega
        have g2 : (k : Int) < (b.length : Int) := by omega
        clear ht
        go_wp2_with fail
        refine (HA1.out _ hb).mono ?_
        rintro e w2 ⟨rfl, hbx⟩
        replace hb := below_chain hb hbx
        replace hown := own_below hown hbx (Nat.le_refl _)
        clear hbx
        go_wp2_with fail
        refine (HB1.out _ hb).mono ?_
        rintro e w3 ⟨rfl, hbx⟩
        replace hb := below_chain hb hbx
        replace hown := own_below hown hbx (Nat.le_refl _)
        clear hbx
        go_wp2_with fail
        refine (HS1.out _).mono ?_
        rintro e w4 ⟨rfl, hbx⟩
        replace hb := below_chain hb hbx
        replace hown := own_below hown hbx (Nat.le_refl _)
        clear hbx
        go_wp2_with (at_builtin; refine wpl_append rfl _ _ rfl el_w rfl (hown.alloc _) rfl (rd_one _ _ _) (one_U64 [z]) (by omega) (by simp; have := hb.size; omega) ?_)
        intro v' wn hown' hgrow hblk
        have hal := (Below.refl w4.heap.size w4).alloc (Nat.le_refl _) (.cells #[.int .u64 (z : Int)] 22)
        have hB := lw_grow (hown.alloc _) hgrow (by simp; have := hb.size; omega)
        replace hb := (below_on hb hal hb.size).trans hB
        replace hown : wn.ownsRow w.heap.size 22 1 v' (k + 1) (U64 ((List.range (k + 1)).map f)) := lw_app (b := [z]) hown' HN1.out
        clear hown' hgrow hblk hal hB
        go_wp2
        go_roundw
        case rel => exact ⟨k + 1, by omega, by go_num, hown, hb⟩
        case measure => simp [intOf]; omega
    · obtain rfl : k = t := by omega
      have g1 : ¬ ((k : Int) < (a.length : Int)) := by omega
      have g2 : ¬ ((k : Int) < (b.length : Int)) := by omega
      have hk2 : k ≤ 100000 := by omega
      obtain ⟨A1, c1, rfl, hc1, hc2, hrd1, -⟩ := own_form hown
      have hlw := lw_own hown (HL.out k)
      clear ht hown hrd1
      go_wp2_with fail
      refine (HT.out _ _ _ _ _ hlw hk2).mono ?_
      rintro e w5 ⟨v, rfl, hv, hbx⟩
      go_wp2
      go_ret
      exact ⟨_, rfl, hv, below_chain hb hbx⟩
end Go.Proofs.YtefnagiffllhbaaGreat
