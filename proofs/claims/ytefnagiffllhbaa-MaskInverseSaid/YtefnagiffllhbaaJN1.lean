/-
  The library's math/bits: Mul64, Len64, LeadingZeros64, Len, by the shelf's contracts.
-/
import Derived.Test.YtefnagiffllhbaaProg
import Derived.WalkKit
import Derived.WalkLawsBesides
import Derived.WalkSpells
import Derived.ProofKit
import Derived.OpenShut
import Derived.Lib.Hide
import Derived.Laws.CopyOwn
import Derived.Maps.AppendAt
import Derived.Deep.RegionLaw
import Derived.Deep.Slices
import Derived.ChangeOld
import Derived.Deep.QuietTactic
import Derived.BigQuiet
import Derived.Shelf.Bits.Mul64
import Derived.Shelf.Small.Bits
import Derived.Shelf.Strconv.Itoa0

/- Words -/
namespace Go.Proofs.Ytefnagiffllhbaa
open Go.RowKit

/-- The cells of a list of bytes, of words, of ints. -/
def U8 (l : List Nat) : List Value := l.map (fun n : Nat => Value.int .u8 (n : Int))
def U64 (l : List Nat) : List Value := l.map (fun n : Nat => Value.int .u64 (n : Int))
def I64 (l : List Int) : List Value := l.map (fun n : Int => Value.int .i64 n)

theorem len_U8 (l : List Nat) : (U8 l).length = l.length := by simp [U8]
theorem len_U64 (l : List Nat) : (U64 l).length = l.length := by simp [U64]
theorem len_I64 (l : List Int) : (I64 l).length = l.length := by simp [I64]
theorem U8_append (l m : List Nat) : U8 (l ++ m) = U8 l ++ U8 m := by simp [U8]
theorem U64_append (l m : List Nat) : U64 (l ++ m) = U64 l ++ U64 m := by simp [U64]
theorem U8_nil : U8 [] = [] := rfl
theorem U64_nil : U64 [] = [] := rfl
theorem U8_cons (n : Nat) (l : List Nat) : U8 (n :: l) = .int .u8 (n : Int) :: U8 l := rfl
theorem U64_cons (n : Nat) (l : List Nat) : U64 (n :: l) = .int .u64 (n : Int) :: U64 l := rfl
theorem one_U8 (l : List Nat) : ∀ u ∈ U8 l, u.oneCell' = true := by
  intro u hu
  obtain ⟨n, _, rfl⟩ := List.mem_map.1 hu
  rfl
theorem one_U64 (l : List Nat) : ∀ u ∈ U64 l, u.oneCell' = true := by
  intro u hu
  obtain ⟨n, _, rfl⟩ := List.mem_map.1 hu
  rfl
theorem one_I64 (l : List Int) : ∀ u ∈ I64 l, u.oneCell' = true := by
  intro u hu
  obtain ⟨n, _, rfl⟩ := List.mem_map.1 hu
  rfl
theorem at_U8 {l : List Nat} {j : Nat} (h : j < l.length) : (U8 l)[j]? = some (.int .u8 (l[j] : Int)) := by simp [U8, h]
theorem at_U64 {l : List Nat} {j : Nat} (h : j < l.length) : (U64 l)[j]? = some (.int .u64 (l[j] : Int)) := by simp [U64, h]

theorem blk_add (a : Addr) (n : Nat) : (a.add n).block = a.block := by
  unfold Addr.add
  split <;> rfl
theorem add_add' (a : Addr) (i j : Nat) : (a.add i).add j = a.add (i + j) := by
  unfold Addr.add
  by_cases hi : i = 0 <;> by_cases hj : j = 0 <;> simp [hi, hj, Nat.add_assoc]
theorem add_zero' (a : Addr) : a.add 0 = a := by simp [Addr.add]

/-- The slice value '.slice A n c', whose elements are 'size' cells each, reads as the cells xs. -/
def Rd (w : World) (size : Nat) (A : Option Addr) (n : Nat) (xs : List Value) : Prop :=
  xs.length = n * size ∧ (0 < n → ∃ ad, A = some ad ∧ ∀ j u, xs[j]? = some u → w.cell? (ad.add j) = some u)

/-- Everything that could be read in w reads the same in w'. -/
def Keeps (w w' : World) : Prop := ∀ p : Addr, p.block < w.heap.size → w'.cell? p = w.cell? p

theorem Keeps.of_below {w w' : World} (h : Below w.heap.size w w') : Keeps w w' := fun _ hp => h.cell hp

section
variable {w w' : World} {size n : Nat} {A : Option Addr} {xs : List Value}
theorem Rd.nil (w : World) (size : Nat) (A : Option Addr) : Rd w size A 0 [] := ⟨by simp, fun h => absurd h (by omega)⟩
theorem Rd.len1 (h : Rd w 1 A n xs) : xs.length = n := by have := h.1; omega
theorem Rd.at_ {k : Nat} (h : Rd w 1 A n xs) (hk : k < n) : ∃ ad u, A = some ad ∧ xs[k]? = some u ∧ w.cell? (ad.add k) = some u := by
  obtain ⟨ad, e, hc⟩ := h.2 (by omega)
  have hl : k < xs.length := by rw [h.len1]; exact hk
  exact ⟨ad, xs[k], e, List.getElem?_eq_getElem hl, hc k _ (List.getElem?_eq_getElem hl)⟩
theorem Rd.keep (h : Rd w size A n xs) (hk : ∀ p : Addr, p.block < w.heap.size → w'.cell? p = w.cell? p) : Rd w' size A n xs :=
  ⟨h.1, fun hn => by
    obtain ⟨ad, e, hc⟩ := h.2 hn
    exact ⟨ad, e, fun j u hu => (hk _ (World.block_lt_of_cell? _ _ (hc j u hu))).trans (hc j u hu)⟩⟩
theorem Rd.below (h : Rd w size A n xs) (hb : Below w.heap.size w w') : Rd w' size A n xs := h.keep fun _ hp => hb.cell hp
theorem Rd.drew (h : Rd w size A n xs) : Rd w.drew size A n xs := h
theorem Rd.drewN (h : Rd w size A n xs) (k : Nat) : Rd (w.drewN k) size A n xs := h
theorem Rd.alloc (h : Rd w size A n xs) (o : Obj) : Rd (w.alloc o) size A n xs := h.keep fun p hp => World.cell?_alloc_lt w o p hp
/-- A write into block g, which the slice does not lie in. -/
theorem Rd.grown (h : Rd w size A n xs) {row : Option Nat} (hg : w.grownBy w' row) (hr : ∀ ad, A = some ad → some ad.block ≠ row) : Rd w' size A n xs :=
  ⟨h.1, fun hn => by
    obtain ⟨ad, e, hc⟩ := h.2 hn
    refine ⟨ad, e, fun j u hu => ?_⟩
    exact hg.cell (hc j u hu) (by rw [blk_add]; exact hr ad e)⟩
theorem Rd.cut (h : Rd w size A n xs) {k cap : Nat} (hk : k ≤ n) (hc : n ≤ cap) :
    Rd w size (if cap = k then A else A.map (·.add (k * size))) (n - k) (xs.drop (k * size)) := by
  refine ⟨by rw [List.length_drop, h.1, Nat.sub_mul], fun hn => ?_⟩
  obtain ⟨ad, rfl, hcell⟩ := h.2 (by omega)
  rw [if_neg (by omega)]
  refine ⟨ad.add (k * size), rfl, fun j u hu => ?_⟩
  rw [add_add']
  exact hcell _ u (by rw [← hu, List.getElem?_drop])
theorem Rd.take (h : Rd w size A n xs) {k : Nat} (hk : k ≤ n) : Rd w size A k (xs.take (k * size)) := by
  refine ⟨by rw [List.length_take, h.1]; exact Nat.min_eq_left (Nat.mul_le_mul_right _ hk), fun hn => ?_⟩
  obtain ⟨ad, e, hcell⟩ := h.2 (by omega)
  refine ⟨ad, e, fun j u hu => hcell j u ?_⟩
  rw [List.getElem?_take] at hu
  split at hu
  · exact hu
  · cases hu
theorem Rd.of_own {base : Nat} {e : TypeId} {c : Nat} (h : w.ownsRow base e size (.slice A n c) n xs) : Rd w size A n xs := by
  refine ⟨h.1, fun hn => ?_⟩
  rcases h.2 with ⟨_, h0⟩ | ⟨g, cap, cur, hv, _⟩
  · omega
  · have hA : A = some ⟨g, 0, none⟩ := by injection hv
    subst hA
    exact ⟨_, rfl, h.cells (g := g) rfl⟩
end

/-- An owned row is a slice value of its length. -/
theorem own_form {w : World} {base : Nat} {e : TypeId} {size : Nat} {v : Value} {n : Nat} {xs : List Value} (h : w.ownsRow base e size v n xs) :
    ∃ A c, v = .slice A n c ∧ n ≤ c ∧ c ≤ maxLen ∧ Rd w size A n xs ∧ (∀ ad, A = some ad → base ≤ ad.block ∧ ad.block < w.heap.size) := by
  have h2 := h
  rcases h.2 with ⟨rfl, rfl⟩ | ⟨g, cap, cur, rfl, hb, hh, hn, hm, _⟩
  · exact ⟨none, 0, rfl, Nat.le_refl _, by simp [maxLen], Rd.of_own h2, fun ad h => by cases h⟩
  · refine ⟨some ⟨g, 0, none⟩, cap, rfl, hn, hm, Rd.of_own h2, fun ad h => ?_⟩
    injection h with h
    subst h
    exact ⟨hb, (Array.getElem?_eq_some_iff.1 hh).1⟩

/-- An owned row stays owned while only older memory is kept and nothing of it is written. -/
theorem own_below {w w' : World} {base B : Nat} {e : TypeId} {size : Nat} {v : Value} {n : Nat} {xs : List Value} (h : w.ownsRow base e size v n xs) (hb : Below B w w') (hB : w.heap.size ≤ B) : w'.ownsRow base e size v n xs := by
  obtain ⟨h1, h2⟩ := h
  refine ⟨h1, ?_⟩
  rcases h2 with h2 | ⟨g, cap, cur, hv, hg, hh, r⟩
  · exact Or.inl h2
  · exact Or.inr ⟨g, cap, cur, hv, hg, by rw [hb.block g (by have := (Array.getElem?_eq_some_iff.1 hh).1; omega)]; exact hh, r⟩
theorem own_base {w : World} {base base' : Nat} {e : TypeId} {size : Nat} {v : Value} {n : Nat} {xs : List Value} (h : w.ownsRow base e size v n xs) (hB : base' ≤ base) : w.ownsRow base' e size v n xs := by
  obtain ⟨h1, h2⟩ := h
  refine ⟨h1, ?_⟩
  rcases h2 with h2 | ⟨g, cap, cur, hv, hg, r⟩
  · exact Or.inl h2
  · exact Or.inr ⟨g, cap, cur, hv, Nat.le_trans hB hg, r⟩
theorem own_nn {w : World} {base : Nat} {e : TypeId} {size : Nat} {v : Value} {n : Nat} {xs : List Value} (h : w.ownsRow base e size v n xs) : ∀ g, v.ownBlock = some g → base ≤ g ∧ g < w.heap.size := h.lt

theorem below_chain {w0 w1 w2 : World} (h1 : Below w0.heap.size w0 w1) (h2 : Below w1.heap.size w1 w2) : Below w0.heap.size w0 w2 := h1.trans (h2.mono h1.size)
theorem below_drewN' {B : Nat} {a w : World} (h : Below B a w) (n : Nat) : Below B a (w.drewN n) := ⟨h.os, h.tape, h.output, h.size, h.block⟩

theorem grown_refl' (w : World) (row : Option Nat) : w.grownBy w row := ⟨rfl, rfl, rfl, Nat.le_refl _, fun _ _ _ => rfl⟩
theorem grown_alloc' {a w : World} {row : Option Nat} (h : a.grownBy w row) (o : Obj) : a.grownBy (w.alloc o) row :=
  ⟨h.os, h.tape, h.output, Nat.le_trans h.size (by simp), fun i hi hne => (Below.heap_alloc w o i (Nat.lt_of_lt_of_le hi h.size)).trans (h.block i hi hne)⟩
theorem grown_drew' {a w : World} {row : Option Nat} (h : a.grownBy w row) : a.grownBy w.drew row := ⟨h.os, h.tape, h.output, h.size, h.block⟩
theorem grown_drewN' {a w : World} {row : Option Nat} (h : a.grownBy w row) (n : Nat) : a.grownBy (w.drewN n) row := ⟨h.os, h.tape, h.output, h.size, h.block⟩
theorem grown_setCell' {a w : World} {row : Option Nat} (h : a.grownBy w row) {p : Addr} (hp : row = some p.block ∨ a.heap.size ≤ p.block) (u : Value) : a.grownBy (w.setCell p u) row :=
  ⟨h.os, h.tape, h.output, by simpa [World.setCell] using h.size, fun i hi hne => (Below.heap_setCell w p u i (by
    rintro rfl
    rcases hp with hp | hp
    · exact hne hp.symm
    · omega)).trans (h.block i hi hne)⟩
/-- One step behind another: the second one writes the same row, or one that is new. -/
theorem grown_step {a w w' : World} {row row' : Option Nat} (h : a.grownBy w row) (hg : w.grownBy w' row') (hr : ∀ g, row' = some g → row = some g ∨ a.heap.size ≤ g) : a.grownBy w' row :=
  ⟨hg.os.trans h.os, hg.tape.trans h.tape, hg.output.trans h.output, Nat.le_trans h.size hg.size, fun i hi hne => (hg.block i (Nat.lt_of_lt_of_le hi h.size) (fun e => by
    rcases hr i e.symm with h1 | h1
    · exact hne h1.symm
    · omega)).trans (h.block i hi hne)⟩
theorem grown_below {a w w' : World} {row : Option Nat} {B : Nat} (h : a.grownBy w row) (hb : Below B w w') (hB : a.heap.size ≤ B) : a.grownBy w' row :=
  ⟨hb.os.trans h.os, hb.tape.trans h.tape, hb.output.trans h.output, Nat.le_trans h.size hb.size, fun i hi hne => (hb.block i (Nat.lt_of_lt_of_le hi hB)).trans (h.block i hi hne)⟩
theorem below_of_grown {a w : World} {row : Option Nat} (h : a.grownBy w row) (B : Nat) (hB : B ≤ a.heap.size) (hr : ∀ g, row = some g → B ≤ g) : Below B a w :=
  ⟨h.os, h.tape, h.output, h.size, fun k hk => h.block k (by omega) (fun e => by have := hr k e.symm; omega)⟩

/-- What a slice type's table rows say: the element type, its cells, its bytes, and its zero value. -/
def Elem (P : Program) (t e : TypeId) (size bytes : Nat) (z : Value) : Prop :=
  P.underlying t = some (.slice e) ∧ (∃ i, P.info? e = some i ∧ i.zero = some z ∧ i.size = size ∧ i.bytes = bytes) ∧ z.cells.size = size ∧ 0 < size

theorem rd_one (w : World) (x : Value) (t : TypeId) : Rd (w.alloc (.cells #[x] t)) 1 (some ⟨w.heap.size, 0, none⟩) 1 [x] :=
  ⟨rfl, fun _ => ⟨_, rfl, cell_one_new w x t⟩⟩
theorem own_empty (w : World) (e : TypeId) {base : Nat} (hb : base ≤ w.heap.size) : (w.alloc (.cells #[] e)).ownsRow base e 1 (.slice (some ⟨w.heap.size, 0, none⟩) 0 0) 0 [] :=
  World.ownsRow_made w #[] 0 hb (by simp [maxLen]) rfl
theorem rd_two (w : World) (x y : Value) (t : TypeId) : Rd (w.alloc (.cells #[x, y] t)) 1 (some ⟨w.heap.size, 0, none⟩) 2 [x, y] := by
  refine ⟨rfl, fun _ => ⟨_, rfl, fun j u hj => ?_⟩⟩
  match j, hj with
  | 0, hj => simp at hj; subst hj; simp [Addr.add]
  | 1, hj => simp at hj; subst hj; simp [Addr.add]

section
variable {P : Program} {w : World} {base size bytes : Nat} {t e : TypeId} {z v : Value} {n : Nat} {xs : List Value}

theorem run_append_rd (E : Elem P t e size bytes z) (ty : TypeId) (hown : w.ownsRow base e size v n xs) {A : Option Addr} {m c : Nat} {news : List Value} (hr : Rd w size A m news)
    (h1 : ∀ u ∈ news, u.oneCell' = true) (hbytes : (n + m) * (bytes + 1) ≤ 140737488355328) (hbase : base ≤ w.heap.size) :
    ∃ v' w', (Builtin.append_ #[t, t] ty #[v, .slice A m c]).run P w = .ok v' w' ∧ w'.ownsRow base e size v' (n + m) (xs ++ news) ∧ w.grownBy w' v.ownBlock ∧ (v'.ownBlock = v.ownBlock ∨ v'.ownBlock = some w.heap.size) := by
  obtain ⟨ht, ⟨i, hi, hz, hs, hby⟩, hzs, hsz⟩ := E
  have hb : (n + m) * bytes ≤ 140737488355328 := Nat.le_trans (Nat.mul_le_mul_left _ (Nat.le_succ _)) hbytes
  have hl : n + m ≤ maxLen := by
    have := Nat.le_trans (Nat.le_mul_of_pos_right (n + m) (Nat.succ_pos bytes)) hbytes
    simp only [maxLen]
    omega
  rcases A with _ | ad
  · have hm : m = 0 := by
      rcases Nat.eq_zero_or_pos m with h0 | h0
      · exact h0
      · obtain ⟨ad, h, _⟩ := hr.2 h0
        cases h
    subst hm
    have hn : news = [] := List.eq_nil_of_length_eq_zero (by simpa using hr.1)
    subst hn
    refine ⟨v, w, ?_, by simpa using hown, grown_refl' w _, .inl rfl⟩
    rcases hown.2 with ⟨rfl, rfl⟩ | ⟨g, cap, cur, rfl, _, _, hnc, _⟩
    · simp [Builtin.append_, run_underlying ht, sizeOf, typeInfo, hi, Builtin.lenOf, Builtin.firstCells]
    · simp [Builtin.append_, run_underlying ht, sizeOf, typeInfo, hi, Builtin.lenOf, Builtin.firstCells, hnc, storeCells]
  · have hcells : ∀ j u, news[j]? = some u → w.cell? (ad.add j) = some u := by
      intro j u hu
      rcases Nat.eq_zero_or_pos m with h0 | h0
      · subst h0
        have hn : news = [] := List.eq_nil_of_length_eq_zero (by simpa using hr.1)
        subst hn
        simp at hu
      · obtain ⟨ad', h, hc⟩ := hr.2 h0
        injection h with h
        subst h
        exact hc j u hu
    obtain ⟨v', w', hrun, h2, h3, _, h5⟩ := run_append_own_at (P := P) w base t ty e i z size bytes ht hi hz hs hby hzs hsz v n xs hown ad m c news hr.1 hcells h1 hl hb hbase
    exact ⟨v', w', hrun, h2, h3, h5⟩

theorem wp_append_rd {o : Oper} {a : Act} {K : Act → World → Prop} {Q : Exit → Act → World → Prop} (s x : Operand)
    (ho : o.op = .call { callee := .builtin .append, args := #[s, x], argTypes := #[t, t] })
    (E : Elem P t e size bytes z) (hs : a.eval s = v) (hown : w.ownsRow base e size v n xs)
    {A : Option Addr} {m c : Nat} {news : List Value} (hx : a.eval x = .slice A m c) (hr : Rd w size A m news) (h1 : ∀ u ∈ news, u.oneCell' = true)
    (hbytes : (n + m) * (bytes + 1) ≤ 140737488355328) (hbase : base ≤ w.heap.size)
    (h : ∀ v' w', w'.ownsRow base e size v' (n + m) (xs ++ news) → w.grownBy w' v.ownBlock → (v'.ownBlock = v.ownBlock ∨ v'.ownBlock = some w.heap.size) → K (a.put o.dst v') w') : o.wp P a w K Q := by
  obtain ⟨v', w', hrun, h2, h3, h4⟩ := run_append_rd (P := P) (c := c) E o.type hown hr h1 hbytes hbase
  unfold Oper.wp execOp
  simp only [ho, resolve, invoke, builtin, Sem.run_bind, Sem.run_pure, Result.andThen_ok, List.map_toArray, List.map_cons, List.map_nil, hs, hx, hrun]
  exact h v' w' h2 h3 h4

theorem wpl_append {ops : Array Oper} {rest : List Oper} {o : Oper} {a : Act} {Q : Exit → Act → World → Prop} (hgd : o.guard = none) (s x : Operand)
    (ho : o.op = .call { callee := .builtin .append, args := #[s, x], argTypes := #[t, t] })
    (E : Elem P t e size bytes z) (hs : a.eval s = v) (hown : w.ownsRow base e size v n xs)
    {A : Option Addr} {m c : Nat} {news : List Value} (hx : a.eval x = .slice A m c) (hr : Rd w size A m news) (h1 : ∀ u ∈ news, u.oneCell' = true)
    (hbytes : (n + m) * (bytes + 1) ≤ 140737488355328) (hbase : base ≤ w.heap.size)
    (h : ∀ v' w', w'.ownsRow base e size v' (n + m) (xs ++ news) → w.grownBy w' v.ownBlock → (v'.ownBlock = v.ownBlock ∨ v'.ownBlock = some w.heap.size) → wpList P ops Q rest (a.put o.dst v') w') : wpList P ops Q (o :: rest) a w :=
  wpList_plain hgd fun _ hK => wp_append_rd s x ho E hs hown hx hr h1 hbytes hbase fun v' w' h2 h3 h4 => hK _ _ (h v' w' h2 h3 h4)

theorem step_append {ops : Array Oper} {o : Oper} {a : Act} {K : Act → World → Prop} {Q : Exit → Act → World → Prop} {F : Prop} (hgd : o.guard = none) (s x : Operand)
    (ho : o.op = .call { callee := .builtin .append, args := #[s, x], argTypes := #[t, t] })
    (E : Elem P t e size bytes z) (hs : a.eval s = v) (hown : w.ownsRow base e size v n xs)
    {A : Option Addr} {m c : Nat} {news : List Value} (hx : a.eval x = .slice A m c) (hr : Rd w size A m news) (h1 : ∀ u ∈ news, u.oneCell' = true)
    (hbytes : (n + m) * (bytes + 1) ≤ 140737488355328) (hbase : base ≤ w.heap.size)
    (h : ∀ v' w', w'.ownsRow base e size v' (n + m) (xs ++ news) → w.grownBy w' v.ownBlock → (v'.ownBlock = v.ownBlock ∨ v'.ownBlock = some w.heap.size) → K (a.put o.dst v') w') :
    if Region.wanted o (yielded ops a.tmps) = true then Oper.wp P o a w K Q else F := by
  have hw : Region.wanted o (yielded ops a.tmps) = true := by simp [Region.wanted, hgd]
  rw [if_pos hw]
  exact wp_append_rd s x ho E hs hown hx hr h1 hbytes hbase h
end

/-- The row that an append wrote lies where the old one lay, or it is new: both are among the rows that the call may write. -/
theorem own_row_step {a w w' : World} {row : Option Nat} {u u' : Value} (h : a.grownBy w row) (hu : ∀ g, u.ownBlock = some g → row = some g ∨ a.heap.size ≤ g) (hg : w.grownBy w' u.ownBlock)
    (hat : u'.ownBlock = u.ownBlock ∨ ∃ g, u'.ownBlock = some g ∧ w.heap.size ≤ g) : a.grownBy w' row ∧ ∀ g, u'.ownBlock = some g → row = some g ∨ a.heap.size ≤ g := by
  refine ⟨grown_step h hg hu, fun g hg' => ?_⟩
  rcases hat with e | ⟨g', e, hle⟩
  · exact hu g (e ▸ hg')
  · rw [e] at hg'
    injection hg' with hg'
    subst hg'
    exact .inr (Nat.le_trans h.size hle)

/-- Block g is just the cells cs of element type t, none of them frozen. -/
def Blk (w : World) (g : Nat) (t : TypeId) (cs : Array Value) : Prop := w.heap[g]? = some (.cells cs t (0, 0))
section
variable {w w' : World} {g : Nat} {t : TypeId} {cs : Array Value}
theorem Blk.lt (h : Blk w g t cs) : g < w.heap.size := (Array.getElem?_eq_some_iff.1 h).1
theorem Blk.cell (h : Blk w g t cs) (i : Nat) : w.cell? ⟨g, i, none⟩ = cs[i]? := cell_of_row w g i cs t (0, 0) h
theorem Blk.frozen (h : Blk w g t cs) (i : Nat) : w.frozen? ⟨g, i, none⟩ = false := by
  unfold Blk at h
  simp [World.frozen?, h]
theorem Blk.new (w : World) (t : TypeId) (cs : Array Value) : Blk (w.alloc (.cells cs t)) w.heap.size t cs := heap_alloc_new w _
theorem Blk.drew (h : Blk w g t cs) : Blk w.drew g t cs := h
theorem Blk.drewN (h : Blk w g t cs) (n : Nat) : Blk (w.drewN n) g t cs := h
theorem Blk.alloc (h : Blk w g t cs) (o : Obj) : Blk (w.alloc o) g t cs := (Below.heap_alloc w o g h.lt).trans h
theorem Blk.set_ (h : Blk w g t cs) (i : Nat) (u : Value) : Blk (w.setCell ⟨g, i, none⟩ u) g t (cs.setIfInBounds i u) := by
  unfold Blk at h ⊢
  simp [World.setCell, Array.getElem?_modify, h]
theorem Blk.far (h : Blk w g t cs) {p : Addr} (hp : g ≠ p.block) (u : Value) : Blk (w.setCell p u) g t cs := (Below.heap_setCell w p u g hp).trans h
theorem Blk.below {B : Nat} (h : Blk w g t cs) (hb : Below B w w') (hg : g < B) : Blk w' g t cs := (hb.block g hg).trans h
theorem Blk.grown {row : Option Nat} (h : Blk w g t cs) (hb : w.grownBy w' row) (hg : some g ≠ row) : Blk w' g t cs := (hb.block g h.lt hg).trans h
end
theorem Rd.set_ {w : World} {size n : Nat} {A : Option Addr} {xs : List Value} (h : Rd w size A n xs) {p : Addr} (hp : ∀ ad, A = some ad → ad.block ≠ p.block) (u : Value) : Rd (w.setCell p u) size A n xs :=
  ⟨h.1, fun hn => by
    obtain ⟨ad, e, hc⟩ := h.2 hn
    refine ⟨ad, e, fun j x hj => ?_⟩
    rw [World.cell?_setCell_other w p _ u (fun e2 => hp ad e (by rw [e2, blk_add]))]
    exact hc j x hj⟩

end Go.Proofs.Ytefnagiffllhbaa

/- Fits -/
namespace Go.Proofs.Ytefnagiffllhbaa
open Go.RowKit Go.ChangeShapes Go.WideShapes Go.ChangeAt

def Fits (P : Program) (w : World) (t : TypeId) (cs : List Value) : Prop :=
  ∃ (H : Type) (enc : TypeId × Value → H) (base : Nat) (spare : Nat → Bool) (held : Bool) (fuel : Nat) (x : DataW H × List MemPlace), DataW.trod enc P w base spare held fuel t cs = some x

section
variable {P : Program} {w : World} {t e : TypeId} {cs : List Value}

theorem Fits.of_trod {H : Type} {enc : TypeId × Value → H} {base : Nat} {spare : Nat → Bool} {held : Bool} {v : Value} {d : DataW H} {ps : List MemPlace} (h : DataW.Trod enc P w base spare held t v d ps) : Fits P w t v.cells.toList := by
  obtain ⟨fuel, hf⟩ := h
  exact ⟨H, enc, base, spare, held, fuel, _, hf⟩

theorem fits_int {k : IntKind} (ht : P.underlying t = some (.int k)) (h : Fits P w t cs) : ∃ n, cs = [.int k n] ∧ (Lit.int k n).wf = true := by
  obtain ⟨H, enc, base, spare, held, fuel, x, hf⟩ := h
  obtain ⟨n, h1, _, h3⟩ := DataW.trod_int ht hf
  exact ⟨n, h1, h3⟩
theorem fits_u8 (ht : P.underlying t = some (.int .u8)) (h : Fits P w t cs) : ∃ n : Nat, cs = [.int .u8 (n : Int)] ∧ n < 256 := by
  obtain ⟨n, rfl, hw⟩ := fits_int ht h
  have hx : 0 ≤ n ∧ n ≤ 255 := by simpa [Lit.wf, IntKind.min, IntKind.max, IntKind.signed, IntKind.bits] using hw
  obtain ⟨m, rfl⟩ := Int.eq_ofNat_of_zero_le hx.1
  exact ⟨m, rfl, by omega⟩
theorem fits_u64 (ht : P.underlying t = some (.int .u64)) (h : Fits P w t cs) : ∃ n : Nat, cs = [.int .u64 (n : Int)] ∧ n < 18446744073709551616 := by
  obtain ⟨n, rfl, hw⟩ := fits_int ht h
  have hx : 0 ≤ n ∧ n ≤ 18446744073709551615 := by simpa [Lit.wf, IntKind.min, IntKind.max, IntKind.signed, IntKind.bits] using hw
  obtain ⟨m, rfl⟩ := Int.eq_ofNat_of_zero_le hx.1
  exact ⟨m, rfl, by omega⟩
theorem fits_i64 (ht : P.underlying t = some (.int .i64)) (h : Fits P w t cs) : ∃ n : Int, cs = [.int .i64 n] ∧ -9223372036854775808 ≤ n ∧ n ≤ 9223372036854775807 := by
  obtain ⟨n, rfl, hw⟩ := fits_int ht h
  have hx : -9223372036854775808 ≤ n ∧ n ≤ 9223372036854775807 := by simpa [Lit.wf, IntKind.min, IntKind.max, IntKind.signed, IntKind.bits] using hw
  exact ⟨n, rfl, hx⟩
theorem fits_bool (ht : P.underlying t = some .bool) (h : Fits P w t cs) : ∃ b, cs = [.bool b] := by
  obtain ⟨H, enc, base, spare, held, fuel, x, hf⟩ := h
  cases fuel with
  | zero => simp [DataW.trod] at hf
  | succ n =>
    unfold DataW.trod at hf
    rw [ht] at hf
    split at hf <;> simp_all

/-- A slice that came in: its length is at most its capacity; each element's cells, and what they read as. -/
theorem fits_slice (ht : P.underlying t = some (.slice e)) (h : Fits P w t cs) : ∃ A n c, cs = [.slice A n c] ∧ n ≤ c ∧ c ≤ maxLen ∧
    ∀ i, i < n → ∃ a cs', A = some a ∧ cs'.length = P.cellsOf e ∧ (∀ j, j < P.cellsOf e → w.cell? (a.add (i * P.cellsOf e + j)) = cs'[j]?) ∧ Fits P w e cs' := by
  obtain ⟨H, enc, base, spare, held, fuel, x, hf⟩ := h
  rcases Deep.open_slice ht hf with ⟨rfl, _⟩ | ⟨a, len, cap, m, k, D, Pl, rfl, hb, hl, hm, hmm, hx, hi⟩
  · exact ⟨none, 0, 0, rfl, Nat.le_refl _, by simp [maxLen], fun i h => absurd h (by omega)⟩
  · refine ⟨some a, len, cap, rfl, hl, hm, fun i hin => ?_⟩
    have him : i < m := by rw [hmm]; split <;> omega
    obtain ⟨cs', hc, ht'⟩ := hi i him
    obtain ⟨_, hcl, hat⟩ := World.cells?_some hc
    exact ⟨a, cs', rfl, hcl, fun j hj => by rw [← add_add']; exact hat j hj, H, enc, base, spare, held, k, _, ht'⟩

theorem fits_struct {fs : Array Field} (ht : P.underlying t = some (.struct fs)) (h : Fits P w t cs) : cs.length = P.cellsOf t ∧
    ∀ (i : Nat) (f : Field), fs[i]? = some f → Fits P w f.type ((cs.drop f.offset).take (P.cellsOf f.type)) := by
  obtain ⟨H, enc, base, spare, held, fuel, x, hf⟩ := h
  obtain ⟨xs, n, _, _, hl, hxl, hi⟩ := DataW.trod_struct ht hf
  refine ⟨hl, fun i f hif => ?_⟩
  have hlt : i < xs.length := by rw [hxl]; exact (Array.getElem?_eq_some_iff.1 hif).1
  exact ⟨H, enc, base, spare, held, n, _, (hi i f hif).trans (List.getElem?_eq_getElem hlt)⟩

/-- A slice of numbers reads as a list of numbers. -/
theorem choose_list {p : Nat → Value → Prop} : ∀ n, (∀ i, i < n → ∃ u, p i u) → ∃ l : List Value, l.length = n ∧ ∀ i u, l[i]? = some u → p i u
  | 0, _ => ⟨[], rfl, fun i u h => by simp at h⟩
  | n + 1, h => by
    obtain ⟨l, hl, hp⟩ := choose_list n fun i hi => h i (by omega)
    obtain ⟨u, hu⟩ := h n (by omega)
    refine ⟨l ++ [u], by simp [hl], fun i x hx => ?_⟩
    rcases Nat.lt_trichotomy i n with h1 | h1 | h1
    · rw [List.getElem?_append_left (by omega)] at hx
      exact hp i x hx
    · subst h1
      rw [List.getElem?_append_right (by omega)] at hx
      simp [hl] at hx
      subst hx
      exact hu
    · rw [List.getElem?_append_right (by omega)] at hx
      rw [List.getElem?_eq_none (by simp; omega)] at hx
      cases hx
theorem choose_nats {p : Nat → Nat → Prop} : ∀ n, (∀ i, i < n → ∃ u, p i u) → ∃ l : List Nat, l.length = n ∧ ∀ i (h : i < l.length), p i l[i]
  | 0, _ => ⟨[], rfl, fun i h => by simp at h⟩
  | n + 1, h => by
    obtain ⟨l, hl, hp⟩ := choose_nats n fun i hi => h i (by omega)
    obtain ⟨u, hu⟩ := h n (by omega)
    refine ⟨l ++ [u], by simp [hl], fun i hx => ?_⟩
    simp at hx
    by_cases h1 : i < l.length
    · rw [List.getElem_append_left h1]
      exact hp i h1
    · rw [List.getElem_append_right (by omega)]
      have : i = n := by omega
      subst this
      simp [hl]
      exact hu

theorem fits_bytes (ht : P.underlying t = some (.slice e)) (he : P.underlying e = some (.int .u8)) (hc : P.cellsOf e = 1) (h : Fits P w t cs) :
    ∃ A n c l, cs = [.slice A n c] ∧ n ≤ c ∧ c ≤ maxLen ∧ Rd w 1 A n (U8 l) ∧ ∀ x ∈ l, x < 256 := by
  obtain ⟨A, n, c, rfl, h1, h2, hi⟩ := fits_slice ht h
  have hi' : ∀ i, i < n → ∃ u : Nat, u < 256 ∧ ∃ a, A = some a ∧ w.cell? (a.add i) = some (.int .u8 (u : Int)) := by
    intro i hin
    obtain ⟨a, cs', rfl, hl, hcell, hf⟩ := hi i hin
    obtain ⟨u, rfl, hu⟩ := fits_u8 he hf
    have := hcell 0 (by omega)
    rw [hc, Nat.mul_one, Nat.add_zero] at this
    exact ⟨u, hu, a, rfl, by simpa using this⟩
  obtain ⟨l, hl, hp⟩ := choose_nats n hi'
  refine ⟨A, n, c, l, rfl, h1, h2, ⟨by rw [len_U8, hl, Nat.mul_one], fun hn => ?_⟩, fun x hx => ?_⟩
  · obtain ⟨_, a, ha, _⟩ := hp 0 (by omega)
    refine ⟨a, ha, fun j u hu => ?_⟩
    have hj : j < l.length := by
      rcases Nat.lt_or_ge j l.length with h | h
      · exact h
      · rw [List.getElem?_eq_none (by rw [len_U8]; exact h)] at hu; cases hu
    obtain ⟨_, a', ha', hc'⟩ := hp j hj
    rw [ha] at ha'
    injection ha' with ha'
    subst ha'
    rw [at_U8 hj] at hu
    injection hu with hu
    rw [hc', hu]
  · obtain ⟨j, hj, rfl⟩ := List.getElem_of_mem hx
    exact (hp j hj).1

theorem fits_words (ht : P.underlying t = some (.slice e)) (he : P.underlying e = some (.int .u64)) (hc : P.cellsOf e = 1) (h : Fits P w t cs) :
    ∃ A n c l, cs = [.slice A n c] ∧ n ≤ c ∧ c ≤ maxLen ∧ Rd w 1 A n (U64 l) ∧ ∀ x ∈ l, x < 18446744073709551616 := by
  obtain ⟨A, n, c, rfl, h1, h2, hi⟩ := fits_slice ht h
  have hi' : ∀ i, i < n → ∃ u : Nat, u < 18446744073709551616 ∧ ∃ a, A = some a ∧ w.cell? (a.add i) = some (.int .u64 (u : Int)) := by
    intro i hin
    obtain ⟨a, cs', rfl, hl, hcell, hf⟩ := hi i hin
    obtain ⟨u, rfl, hu⟩ := fits_u64 he hf
    have := hcell 0 (by omega)
    rw [hc, Nat.mul_one, Nat.add_zero] at this
    exact ⟨u, hu, a, rfl, by simpa using this⟩
  obtain ⟨l, hl, hp⟩ := choose_nats n hi'
  refine ⟨A, n, c, l, rfl, h1, h2, ⟨by rw [len_U64, hl, Nat.mul_one], fun hn => ?_⟩, fun x hx => ?_⟩
  · obtain ⟨_, a, ha, _⟩ := hp 0 (by omega)
    refine ⟨a, ha, fun j u hu => ?_⟩
    have hj : j < l.length := by
      rcases Nat.lt_or_ge j l.length with h | h
      · exact h
      · rw [List.getElem?_eq_none (by rw [len_U64]; exact h)] at hu; cases hu
    obtain ⟨_, a', ha', hc'⟩ := hp j hj
    rw [ha] at ha'
    injection ha' with ha'
    subst ha'
    rw [at_U64 hj] at hu
    injection hu with hu
    rw [hc', hu]
  · obtain ⟨j, hj, rfl⟩ := List.getElem_of_mem hx
    exact (hp j hj).1

/-- A slice of structs of whatever cells: each element's cells, as f gives them of what it stands for. -/
theorem fits_rows {α : Type} (f : α → List Value) (good : α → Prop) (sz : Nat) (ht : P.underlying t = some (.slice e)) (hc : P.cellsOf e = sz)
    (ho : ∀ cs', cs'.length = sz → Fits P w e cs' → ∃ x, good x ∧ cs' = f x) (h : Fits P w t cs) :
    ∃ A n c, cs = [.slice A n c] ∧ n ≤ c ∧ c ≤ maxLen ∧ ∃ l : List α, l.length = n ∧ (∀ x ∈ l, good x) ∧ ∀ (i : Nat) (hi : i < l.length), ∃ a, A = some a ∧ ∀ j, j < sz → w.cell? (a.add (i * sz + j)) = (f l[i])[j]? := by
  obtain ⟨A, n, c, rfl, h1, h2, hi⟩ := fits_slice ht h
  refine ⟨A, n, c, rfl, h1, h2, ?_⟩
  have : ∀ i, i < n → ∃ x, good x ∧ ∃ a, A = some a ∧ ∀ j, j < sz → w.cell? (a.add (i * sz + j)) = (f x)[j]? := by
    intro i hin
    obtain ⟨a, cs', rfl, hl, hcell, hfit⟩ := hi i hin
    obtain ⟨x, hx, rfl⟩ := ho cs' (by rw [hl, hc]) hfit
    rw [hc] at hcell
    exact ⟨x, hx, a, rfl, hcell⟩
  clear hi h
  induction n with
  | zero => exact ⟨[], rfl, by simp, fun i hi => absurd hi (by simp)⟩
  | succ n ih =>
    obtain ⟨l, hl, hg, hp⟩ := ih (by omega) fun i hi => this i (by omega)
    obtain ⟨x, hx, hq⟩ := this n (by omega)
    refine ⟨l ++ [x], by simp [hl], ?_, fun i hi => ?_⟩
    · intro y hy
      rcases List.mem_append.1 hy with hy | hy
      · exact hg y hy
      · rw [List.mem_singleton] at hy; subst hy; exact hx
    · by_cases h1 : i < l.length
      · rw [List.getElem_append_left h1]; exact hp i h1
      · have : i = n := by simp at hi; omega
        subst this
        rw [List.getElem_append_right (by omega)]
        simpa [hl] using hq
end
end Go.Proofs.Ytefnagiffllhbaa

/- Data -/
namespace Go.Proofs.Ytefnagiffllhbaa
open Go.RowKit

/-- Element i of the slice lies in the cells cs, which stand for l[i] by R. -/
def RdL {α : Type} (w : World) (sz : Nat) (R : World → List Value → α → Prop) (A : Option Addr) (l : List α) : Prop :=
  ∀ (i : Nat) (hi : i < l.length), ∃ a cs, A = some a ∧ cs.length = sz ∧ (∀ j, j < sz → w.cell? (a.add (i * sz + j)) = cs[j]?) ∧ R w cs l[i]
/-- R is kept while nothing that was there changes. -/
def Kept {α : Type} (R : World → List Value → α → Prop) : Prop := ∀ (w w' : World) (cs : List Value) (x : α), Below w.heap.size w w' → R w cs x → R w' cs x
/-- A slice value, as one cell. -/
def RSl {α : Type} (sz : Nat) (R : World → List Value → α → Prop) (w : World) (cs : List Value) (l : List α) : Prop :=
  ∃ A n c, cs = [.slice A n c] ∧ l.length = n ∧ n ≤ c ∧ c ≤ maxLen ∧ RdL w sz R A l
/-- A slice of words, as one cell. -/
def RWd (w : World) (cs : List Value) (l : List Nat) : Prop :=
  ∃ A n c, cs = [.slice A n c] ∧ n ≤ c ∧ c ≤ maxLen ∧ Rd w 1 A n (U64 l) ∧ ∀ x ∈ l, x < 18446744073709551616

section
variable {α : Type} {R : World → List Value → α → Prop} {sz : Nat} {w w' : World} {A : Option Addr} {l : List α}
theorem RdL.below (h : RdL w sz R A l) (hR : Kept R) (hb : Below w.heap.size w w') : RdL w' sz R A l := fun i hi => by
  obtain ⟨a, cs, e, hl, hc, hr⟩ := h i hi
  refine ⟨a, cs, e, hl, fun j hj => ?_, hR _ _ _ _ hb hr⟩
  have hcj := hc j hj
  rw [List.getElem?_eq_getElem (by omega)] at hcj ⊢
  exact (hb.cell (World.block_lt_of_cell? _ _ hcj)).trans hcj
theorem kept_RSl (hR : Kept R) : Kept (RSl sz R) := fun w w' cs l hb h => by
  obtain ⟨A, n, c, e, h1, h2, h3, h4⟩ := h
  exact ⟨A, n, c, e, h1, h2, h3, h4.below hR hb⟩
theorem kept_RWd : Kept RWd := fun w w' cs l hb h => by
  obtain ⟨A, n, c, e, h1, h2, h3, h4⟩ := h
  exact ⟨A, n, c, e, h1, h2, h3.below hb, h4⟩
/-- The cells of element i, at a plain address. -/
theorem RdL.at_ (h : RdL w sz R A l) (hsz : 0 < sz) {i : Nat} (hi : i < l.length) :
    ∃ a b q cs, A = some a ∧ a.add (i * sz) = ⟨b, q, none⟩ ∧ cs.length = sz ∧ (∀ j, j < sz → w.cell? ⟨b, q + j, none⟩ = cs[j]?) ∧ R w cs l[i] := by
  obtain ⟨a, cs, e, hl, hc, hr⟩ := h i hi
  have h0 := hc 0 hsz
  rw [Nat.add_zero, List.getElem?_eq_getElem (by omega)] at h0
  obtain ⟨b, q, hq⟩ : ∃ b q, a.add (i * sz) = ⟨b, q, none⟩ := by
    have hs := World.cell?_spot h0
    generalize a.add (i * sz) = x at hs
    obtain ⟨b, q, s⟩ := x
    simp at hs
    subst hs
    exact ⟨b, q, rfl⟩
  refine ⟨a, b, q, cs, e, hq, hl, fun j hj => ?_, hr⟩
  have := hc j hj
  rw [← add_add', hq] at this
  rw [← this]
  unfold Addr.add
  split <;> simp_all
end

section
variable {P : Program} {w : World} {t e : TypeId} {cs : List Value}
theorem choose_typed {α : Type} {p : Nat → α → Prop} : ∀ n, (∀ i, i < n → ∃ u, p i u) → ∃ l : List α, l.length = n ∧ ∀ i (h : i < l.length), p i l[i]
  | 0, _ => ⟨[], rfl, fun i h => by simp at h⟩
  | n + 1, h => by
    obtain ⟨l, hl, hp⟩ := choose_typed n fun i hi => h i (by omega)
    obtain ⟨u, hu⟩ := h n (by omega)
    refine ⟨l ++ [u], by simp [hl], fun i hx => ?_⟩
    simp at hx
    by_cases h1 : i < l.length
    · rw [List.getElem_append_left h1]
      exact hp i h1
    · rw [List.getElem_append_right (by omega)]
      have : i = n := by omega
      subst this
      simp [hl]
      exact hu
theorem fits_RSl {α : Type} {R : World → List Value → α → Prop} (sz : Nat) (ht : P.underlying t = some (.slice e)) (hc : P.cellsOf e = sz)
    (ho : ∀ cs', cs'.length = sz → Fits P w e cs' → ∃ x, R w cs' x) (h : Fits P w t cs) : ∃ l, RSl sz R w cs l := by
  obtain ⟨A, n, c, rfl, h1, h2, hi⟩ := fits_slice ht h
  rw [hc] at hi
  have : ∀ i, i < n → ∃ x, ∃ a cs', A = some a ∧ cs'.length = sz ∧ (∀ j, j < sz → w.cell? (a.add (i * sz + j)) = cs'[j]?) ∧ R w cs' x := by
    intro i hin
    obtain ⟨a, cs', e, hl, hcell, hf⟩ := hi i hin
    obtain ⟨x, hx⟩ := ho cs' hl hf
    exact ⟨x, a, cs', e, hl, hcell, hx⟩
  obtain ⟨l, hl, hp⟩ := choose_typed n this
  exact ⟨l, A, n, c, rfl, hl, h1, h2, fun i hi => hp i hi⟩
theorem fits_RWd (ht : P.underlying t = some (.slice e)) (he : P.underlying e = some (.int .u64)) (hc : P.cellsOf e = 1) (h : Fits P w t cs) : ∃ l, RWd w cs l := by
  obtain ⟨A, n, c, l, rfl, h1, h2, h3, h4⟩ := fits_words ht he hc h
  exact ⟨l, A, n, c, rfl, h1, h2, h3, h4⟩
/-- The cells of one field. -/
theorem fits_field {fs : Array Field} {f : Field} {i k n : Nat} (ht : P.underlying t = some (.struct fs)) (hf : fs[i]? = some f) (ho : f.offset = k) (hn : P.cellsOf f.type = n) (h : Fits P w t cs) : Fits P w f.type ((cs.drop k).take n) := by
  have := (fits_struct ht h).2 i f hf
  rw [ho, hn] at this
  exact this
end

/-- A term of a linear combination: the variable and the coefficient. -/
def RTerm (_w : World) (cs : List Value) (x : Int × Nat) : Prop := cs = [.int .i64 x.1, .int .u64 (x.2 : Int)] ∧ (-9223372036854775808 ≤ x.1 ∧ x.1 ≤ 9223372036854775807) ∧ x.2 < 18446744073709551616
theorem kept_RTerm : Kept RTerm := fun _ _ _ _ _ h => h
/-- A linear combination. -/
def RLin : World → List Value → List (Int × Nat) → Prop := RSl 2 RTerm
theorem kept_RLin : Kept RLin := kept_RSl kept_RTerm
/-- A row of a table. -/
structure RowR where
  a : List (Int × Nat)
  b : List (Int × Nat)
  c : List (Int × Nat)
def RRow (w : World) (cs : List Value) (r : RowR) : Prop := ∃ x y z, cs = [x, y, z] ∧ RLin w [x] r.a ∧ RLin w [y] r.b ∧ RLin w [z] r.c
theorem kept_RRow : Kept RRow := fun w w' cs r hb h => by
  obtain ⟨x, y, z, e, h1, h2, h3⟩ := h
  exact ⟨x, y, z, e, kept_RLin _ _ _ _ hb h1, kept_RLin _ _ _ _ hb h2, kept_RLin _ _ _ _ hb h3⟩
/-- A table. -/
structure TabR where
  p : Nat
  pub : Int
  vars : Int
  rows : List RowR
def RTab (w : World) (cs : List Value) (t : TabR) : Prop := ∃ x, cs = [.int .u64 (t.p : Int), .int .i64 t.pub, .int .i64 t.vars, x] ∧ t.p < 18446744073709551616 ∧
  (-9223372036854775808 ≤ t.pub ∧ t.pub ≤ 9223372036854775807) ∧ (-9223372036854775808 ≤ t.vars ∧ t.vars ≤ 9223372036854775807) ∧ RSl 3 RRow w [x] t.rows
theorem kept_RTab : Kept RTab := fun w w' cs r hb h => by
  obtain ⟨x, e, h1, h2, h3, h4⟩ := h
  exact ⟨x, e, h1, h2, h3, kept_RSl kept_RRow _ _ _ _ hb h4⟩

theorem cellsOf_u64 : Try.prog.cellsOf 22 = 1 := by kernel_rfl
theorem cellsOf_int : Try.prog.cellsOf 3 = 1 := by kernel_rfl
theorem cellsOf_bool : Try.prog.cellsOf 4 = 1 := by kernel_rfl
theorem cellsOf_words : Try.prog.cellsOf 28 = 1 := by kernel_rfl
theorem cellsOf_lin : Try.prog.cellsOf 69 = 1 := by kernel_rfl
theorem cellsOf_term : Try.prog.cellsOf 67 = 2 := by kernel_rfl
theorem cellsOf_row : Try.prog.cellsOf 71 = 3 := by kernel_rfl
theorem cellsOf_rows : Try.prog.cellsOf 23 = 1 := by kernel_rfl
theorem cellsOf_tab : Try.prog.cellsOf 25 = 4 := by kernel_rfl

theorem fits_RLin {w : World} {cs : List Value} (h : Fits Try.prog w 69 cs) : ∃ l, RLin w cs l :=
  fits_RSl 2 Try.underlying69 cellsOf_term (fun cs' hl hf => by
    match cs', hl with
    | [x, y], _ =>
      obtain ⟨a, ha, hal⟩ := fits_i64 Try.underlying3 (fits_field (i := 0) Try.underlying67 rfl rfl cellsOf_int hf)
      obtain ⟨b, hb, hbl⟩ := fits_u64 Try.underlying22 (fits_field (i := 1) Try.underlying67 rfl rfl cellsOf_u64 hf)
      simp at ha hb
      exact ⟨(a, b), by rw [ha, hb], hal, hbl⟩) h
theorem fits_RRow {w : World} {cs : List Value} (hl : cs.length = 3) (h : Fits Try.prog w 71 cs) : ∃ r, RRow w cs r := by
  match cs, hl with
  | [x, y, z], _ =>
    obtain ⟨a, ha⟩ := fits_RLin (fits_field (i := 0) Try.underlying71 rfl rfl cellsOf_lin h)
    obtain ⟨b, hb⟩ := fits_RLin (fits_field (i := 1) Try.underlying71 rfl rfl cellsOf_lin h)
    obtain ⟨c, hc⟩ := fits_RLin (fits_field (i := 2) Try.underlying71 rfl rfl cellsOf_lin h)
    exact ⟨⟨a, b, c⟩, x, y, z, rfl, ha, hb, hc⟩
theorem fits_RTab {w : World} {cs : List Value} (hl : cs.length = 4) (h : Fits Try.prog w 25 cs) : ∃ t, RTab w cs t := by
  match cs, hl with
  | [x, y, z, r], _ =>
    obtain ⟨a, ha, hal⟩ := fits_u64 Try.underlying22 (fits_field (i := 0) Try.underlying25 rfl rfl cellsOf_u64 h)
    obtain ⟨b, hb, hbl⟩ := fits_i64 Try.underlying3 (fits_field (i := 1) Try.underlying25 rfl rfl cellsOf_int h)
    obtain ⟨c, hc, hcl⟩ := fits_i64 Try.underlying3 (fits_field (i := 2) Try.underlying25 rfl rfl cellsOf_int h)
    obtain ⟨rs, hr⟩ := fits_RSl 3 (R := RRow) Try.underlying23 cellsOf_row (fun cs' hl' hf => fits_RRow hl' hf) (fits_field (i := 3) Try.underlying25 rfl rfl cellsOf_rows h)
    simp at ha hb hc
    exact ⟨⟨a, b, c, rs⟩, r, by rw [ha, hb, hc], hal, hbl, hcl, hr⟩
end Go.Proofs.Ytefnagiffllhbaa

/- RefA -/
namespace Go.Proofs.Ytefnagiffllhbaa
open Go.RowKit

/-- The known primes. -/
def okP (p : Nat) : Bool := p == 17 || p == 97 || p == 193 || p == 257 || p == 12289 || p == 65537 || p == 18446744069414584321
theorem okP_cases {p : Nat} (h : okP p = true) : p = 17 ∨ p = 97 ∨ p = 193 ∨ p = 257 ∨ p = 12289 ∨ p = 65537 ∨ p = 18446744069414584321 := by
  simp [okP] at h
  omega
/-- The row of the document's table. -/
def rowOf (p : Nat) : Nat × Nat × Nat :=
  if p = 17 then (3, 4, 3) else
  if p = 97 then (5, 5, 5) else
  if p = 193 then (5, 6, 5) else
  if p = 257 then (3, 8, 3) else
  if p = 12289 then (11, 12, 5) else
  if p = 65537 then (3, 16, 3) else
  if p = 18446744069414584321 then (7, 32, 7) else
  (0, 0, 0)
def rowVal (p : Nat) : Value := .agg #[.int .u64 ((rowOf p).1 : Int), .int .u64 ((rowOf p).2.1 : Int), .int .u64 ((rowOf p).2.2 : Int)]

set_option maxRecDepth 100000 in
set_option maxHeartbeats 1000000 in
theorem row_any (p : Nat) (w : World) (_hp : p < 18446744073709551616) :
    Calls Try.prog 79 #[.int .u64 p] w fun e w' => e = .returned (rowVal p) ∧ Below w.heap.size w w' := by
  by_cases h0 : p = 17
  · subst h0
    go_enter Try.func79, Try.ntmps79
    go_wp2_with fail
    exact bodyPost_ret (v := .agg #[.int .u64 3, .int .u64 4, .int .u64 3]) (by simp [results, Try.results79, go_sem]) rfl ⟨rfl, (Below.refl _ _).alloc (Nat.le_refl _) _⟩
  by_cases h1 : p = 97
  · subst h1
    go_enter Try.func79, Try.ntmps79
    go_wp2_with fail
    exact bodyPost_ret (v := .agg #[.int .u64 5, .int .u64 5, .int .u64 5]) (by simp [results, Try.results79, go_sem]) rfl ⟨rfl, (Below.refl _ _).alloc (Nat.le_refl _) _⟩
  by_cases h2 : p = 193
  · subst h2
    go_enter Try.func79, Try.ntmps79
    go_wp2_with fail
    exact bodyPost_ret (v := .agg #[.int .u64 5, .int .u64 6, .int .u64 5]) (by simp [results, Try.results79, go_sem]) rfl ⟨rfl, (Below.refl _ _).alloc (Nat.le_refl _) _⟩
  by_cases h3 : p = 257
  · subst h3
    go_enter Try.func79, Try.ntmps79
    go_wp2_with fail
    exact bodyPost_ret (v := .agg #[.int .u64 3, .int .u64 8, .int .u64 3]) (by simp [results, Try.results79, go_sem]) rfl ⟨rfl, (Below.refl _ _).alloc (Nat.le_refl _) _⟩
  by_cases h4 : p = 12289
  · subst h4
    go_enter Try.func79, Try.ntmps79
    go_wp2_with fail
    exact bodyPost_ret (v := .agg #[.int .u64 11, .int .u64 12, .int .u64 5]) (by simp [results, Try.results79, go_sem]) rfl ⟨rfl, (Below.refl _ _).alloc (Nat.le_refl _) _⟩
  by_cases h5 : p = 65537
  · subst h5
    go_enter Try.func79, Try.ntmps79
    go_wp2_with fail
    exact bodyPost_ret (v := .agg #[.int .u64 3, .int .u64 16, .int .u64 3]) (by simp [results, Try.results79, go_sem]) rfl ⟨rfl, (Below.refl _ _).alloc (Nat.le_refl _) _⟩
  by_cases h6 : p = 18446744069414584321
  · subst h6
    go_enter Try.func79, Try.ntmps79
    go_wp2_with fail
    exact bodyPost_ret (v := .agg #[.int .u64 7, .int .u64 32, .int .u64 7]) (by simp [results, Try.results79, go_sem]) rfl ⟨rfl, (Below.refl _ _).alloc (Nat.le_refl _) _⟩
  have d0 : ((p : Int) == 17) = false := by rw [beq_eq_false_iff_ne]; omega
  have d1 : ((p : Int) == 97) = false := by rw [beq_eq_false_iff_ne]; omega
  have d2 : ((p : Int) == 193) = false := by rw [beq_eq_false_iff_ne]; omega
  have d3 : ((p : Int) == 257) = false := by rw [beq_eq_false_iff_ne]; omega
  have d4 : ((p : Int) == 12289) = false := by rw [beq_eq_false_iff_ne]; omega
  have d5 : ((p : Int) == 65537) = false := by rw [beq_eq_false_iff_ne]; omega
  have d6 : ((p : Int) == 18446744069414584321) = false := by rw [beq_eq_false_iff_ne]; omega
  have HR := Lib.hid (show rowVal p = .agg #[.int .u64 0, .int .u64 0, .int .u64 0] by simp [rowVal, rowOf, *])
  clear h0 h1 h2 h3 h4 h5 h6
  go_enter Try.func79, Try.ntmps79
  go_wp2_with fail
  exact bodyPost_ret (v := .agg #[.int .u64 0, .int .u64 0, .int .u64 0]) (by simp [results, Try.results79, go_sem]) rfl ⟨by rw [HR.out], (Below.refl _ _).alloc (Nat.le_refl _) _⟩

theorem rowOf_ok (p : Nat) : decide (0 < (rowOf p).1) = okP p := by
  by_cases h : okP p = true
  · rcases okP_cases h with rfl | rfl | rfl | rfl | rfl | rfl | rfl <;> rfl
  · have h' := h
    simp [okP] at h'
    simp [rowOf, h', h]

end Go.Proofs.Ytefnagiffllhbaa

/- WireA -/
namespace Go.Proofs.Ytefnagiffllhbaa
open Go.RowKit

theorem info_u8 : (Try.prog.info? 5).map (fun i => (i.zero, i.size, i.bytes)) = some (some (.int .u8 0), 1, 1) := by kernel_rfl
theorem info_u64 : (Try.prog.info? 22).map (fun i => (i.zero, i.size, i.bytes)) = some (some (.int .u64 0), 1, 8) := by kernel_rfl

theorem made_len (z : Array Value) (n : Nat) : (madeCells z n).toList.length = n := by
  rw [Array.length_toList, size_madeCells]
theorem splice_zero_take {α : Type} {L : List α} {cs : List α} {n : Nat} (h : cs.length = n) : (splice L 0 cs).toArray.toList.take n = cs := by
  subst h
  simp [splice]
theorem rd_src {w w' : World} {A : Option Addr} {n : Nat} {xs : List Value} (h : Rd w 1 A n xs) (hn : 0 < n) (hk : ∀ p : Addr, p.block < w.heap.size → w'.cell? p = w.cell? p := by intro p hp; exact World.cell?_alloc_lt _ _ _ hp) :
    ∃ ad, A = some ad ∧ ∀ j v, xs[j]? = some v → w'.cell? (ad.add j) = some v := (h.keep hk).2 hn

/-- The lowest bytes of a number, the least significant one first. -/
def digs : Nat → Nat → List Nat
  | _, 0 => []
  | n, k + 1 => n % 256 :: digs (n / 256) k
theorem digs_snoc : ∀ (k n : Nat), digs n (k + 1) = digs n k ++ [n / 256 ^ k % 256]
  | 0, n => by simp [digs]
  | k + 1, n => by
    rw [digs, digs_snoc k (n / 256), digs, List.cons_append, Nat.div_div_eq_div_mul, Nat.pow_succ, Nat.mul_comm 256]
theorem len_digs : ∀ (k n : Nat), (digs n k).length = k
  | 0, _ => rfl
  | k + 1, n => by simp [digs, len_digs k]

/-- The number that is encoded for a length. -/
def lenOf (n : Int) : Nat := if n < 0 ∨ 4294967295 < n then 0 else n.toNat
theorem lenOf_out {n : Int} (h : n < 0 ∨ 4294967295 < n) : lenOf n = 0 := by simp [lenOf, h]
theorem lenOf_in {n : Int} (h : 0 ≤ n) (h2 : n ≤ 4294967295) : lenOf n = n.toNat := by
  unfold lenOf
  rw [if_neg (by omega)]
theorem lenOf_nat {n : Nat} (h : n ≤ 4294967295) : lenOf (n : Int) = n := by rw [lenOf_in (by omega) (by omega)]; omega
theorem lenOf_lt (n : Int) : lenOf n < 4294967296 := by unfold lenOf; split <;> omega

/-- What a call gives that appends to a row v of its caller's: the row with more cells; what it wrote. -/
def Adds (w : World) (v : Value) (base n : Nat) (xs : List Value) (e : Ending) (w' : World) : Prop :=
  ∃ v', e = .returned v' ∧ w'.ownsRow base 5 1 v' n xs ∧ w.grownBy w' v.ownBlock ∧ (∀ g, v'.ownBlock = some g → v.ownBlock = some g ∨ w.heap.size ≤ g)

end Go.Proofs.Ytefnagiffllhbaa

/- RefB -/
namespace Go.Proofs.Ytefnagiffllhbaa
open Go.RowKit

theorem add_none (b q k : Nat) : (⟨b, q, none⟩ : Addr).add k = ⟨b, q + k, none⟩ := by
  unfold Addr.add
  split
  · subst_vars; rfl
  · rfl
/-- The base of a slice that has an element. -/
theorem RdL.base {α : Type} {R : World → List Value → α → Prop} {sz : Nat} {w : World} {A : Option Addr} {l : List α} (h : RdL w sz R A l) (hsz : 0 < sz) (hl : 0 < l.length) : ∃ b q, A = some ⟨b, q, none⟩ := by
  obtain ⟨a, b, q, cs, rfl, hq, -⟩ := h.at_ hsz hl
  refine ⟨b, q, ?_⟩
  rw [← hq]
  simp [Addr.add]
theorem RdL.get {α : Type} {R : World → List Value → α → Prop} {sz : Nat} {w : World} {b q : Nat} {l : List α} (h : RdL w sz R (some ⟨b, q, none⟩) l) {i : Nat} (hi : i < l.length) :
    ∃ cs, cs.length = sz ∧ (∀ j, j < sz → w.cell? ⟨b, q + i * sz + j, none⟩ = cs[j]?) ∧ R w cs l[i] := by
  obtain ⟨a, cs, e, hl, hc, hr⟩ := h i hi
  injection e with e
  subst e
  refine ⟨cs, hl, fun j hj => ?_, hr⟩
  rw [← hc j hj, add_none, Nat.add_assoc]

/-- 'a[i]' of an array by value, of elements of one cell. -/
theorem run_index_arr {P : Program} {w : World} {t e : TypeId} {n : Nat} {cs : Array Value} {v : Value} {i : Nat} (h : P.underlying t = some (.array n e)) (hs : ((isAgg e).run P w) = .ok false w) (hz : ((sizeOf e).run P w) = .ok 1 w) (hi : i < n) (hv : cs[i]? = some v) :
    (Instr.index t (.agg cs) (.int .i64 (i : Int))).run P w = .ok v w := by
  have h1 : (0 : Int) ≤ (i : Int) ∧ (i : Int) < (n : Int) := by omega
  simp [Instr.index, run_underlying h, asIntOf, h1, hi, hz, hs, hv, part, Result.andThen]
theorem agg_u64 {w : World} : ((isAgg 22).run Try.prog w) = .ok false w := by simp [isAgg, run_underlying Try.underlying22]
theorem size_u64 {w : World} : ((sizeOf 22).run Try.prog w) = .ok 1 w := by
  obtain ⟨i0, hi, hz0, hz1, hz2⟩ := info_parts info_u64
  simp [sizeOf, typeInfo, hi, hz1]
theorem idx_w3_0 {w : World} {a b c : Value} : (Instr.index 120 (.agg #[a, b, c]) (.int .i64 0)).run Try.prog w = .ok a w :=
  run_index_arr (i := 0) Try.underlying120 agg_u64 size_u64 (by omega) rfl

set_option maxRecDepth 100000 in
set_option maxHeartbeats 400000 in
theorem rValidP_any (p : Nat) (w : World) (hp : p < 18446744073709551616) :
    Calls Try.prog 76 #[.int .u64 p] w fun e w' => e = .returned (.bool (okP p)) ∧ Below w.heap.size w w' := by
  have HO := Lib.hid (rowOf_ok p)
  have HR := Lib.hid (row_any p w hp)
  unfold rowVal at HR
  revert HO HR
  generalize (rowOf p).1 = a
  generalize (rowOf p).2.1 = b
  generalize (rowOf p).2.2 = c
  intro HO HR
  go_enter Try.func76, Try.ntmps76
  go_wp2_with (go_at_call 79; refine HR.out.mono ?_; rintro e w1 ⟨rfl, hb⟩)
  rw [idx_w3_0, Result.andThen, Oper.upon_value]
  go_wp2
  go_ret
  exact ⟨by rw [← HO.out]; rfl, hb⟩
end Go.Proofs.Ytefnagiffllhbaa

/- Bits -/
namespace Go.Proofs.Ytefnagiffllhbaa
open Go.RowKit

def ren264 : Go.Shelf.Ren := ⟨fun | 264 => 80 | n => n, fun | 46 => 136 | 53 => 22 | n => n, fun n => n⟩
theorem lays264 : Go.Proofs.Lays.n264 Try.prog ren264 := { mixed := by kernel_rfl, f264 := by kernel_rfl, t46 := by kernel_rfl, a46 := fun _ => by kernel_rfl, z46 := fun _ => by kernel_rfl, v46 := fun _ => by kernel_rfl, t53 := by kernel_rfl, a53 := fun _ => by kernel_rfl, z53 := fun _ => by kernel_rfl, v53 := fun _ => by kernel_rfl }
theorem mul64_any (x y : Nat) (w : World) (hx : x < 18446744073709551616) (hy : y < 18446744073709551616) :
    Calls Try.prog 80 #[.int .u64 x, .int .u64 y] w fun e w' => e = .returned (.tuple #[.int .u64 ((x * y / 18446744073709551616 : Nat) : Int), .int .u64 ((x * y % 18446744073709551616 : Nat) : Int)]) ∧ w' = w :=
  Any.bits_Mul64 lays264 x y hx hy w

def ren129 : Go.Shelf.Ren := ⟨fun | 129 => 116 | n => n, fun | 3 => 3 | 4 => 4 | 5 => 5 | 9 => 9 | 46 => 136 | 53 => 22 | n => n, fun n => n⟩
theorem lays129 : Go.Proofs.Lays.n129 Try.prog ren129 := { mixed := by kernel_rfl, f129 := by kernel_rfl, t3 := by kernel_rfl, a3 := fun _ => by kernel_rfl, z3 := fun _ => by kernel_rfl, v3 := fun _ => by kernel_rfl, t4 := by kernel_rfl, a4 := fun _ => by kernel_rfl, z4 := fun _ => by kernel_rfl, v4 := fun _ => by kernel_rfl, t5 := by kernel_rfl, a5 := fun _ => by kernel_rfl, z5 := fun _ => by kernel_rfl, v5 := fun _ => by kernel_rfl, t9 := by kernel_rfl, a9 := fun _ => by kernel_rfl, z9 := fun _ => by kernel_rfl, v9 := fun _ => by kernel_rfl, t46 := by kernel_rfl, a46 := fun _ => by kernel_rfl, z46 := fun _ => by kernel_rfl, v46 := fun _ => by kernel_rfl, t53 := by kernel_rfl, a53 := fun _ => by kernel_rfl, z53 := fun _ => by kernel_rfl, v53 := fun _ => by kernel_rfl }
theorem len64_any (x : Int) (w : World) (h0 : 0 ≤ x) (h1 : x ≤ 18446744073709551615) :
    Calls Try.prog 116 #[.int .u64 x] w fun e w' => e = .returned (.int .i64 (Lib.bitLen x.toNat)) ∧ w' = w := Any.bits_Len64 lays129 x w h0 h1

def ren134 : Go.Shelf.Ren := ⟨fun | 129 => 116 | 134 => 106 | n => n, fun | 3 => 3 | 4 => 4 | 5 => 5 | 9 => 9 | 46 => 136 | 53 => 22 | n => n, fun n => n⟩
theorem lays134 : Go.Proofs.Lays.n134 Try.prog ren134 := { mixed := by kernel_rfl, f129 := by kernel_rfl, f134 := by kernel_rfl, t3 := by kernel_rfl, a3 := fun _ => by kernel_rfl, z3 := fun _ => by kernel_rfl, v3 := fun _ => by kernel_rfl, t4 := by kernel_rfl, a4 := fun _ => by kernel_rfl, z4 := fun _ => by kernel_rfl, v4 := fun _ => by kernel_rfl, t5 := by kernel_rfl, a5 := fun _ => by kernel_rfl, z5 := fun _ => by kernel_rfl, v5 := fun _ => by kernel_rfl, t9 := by kernel_rfl, a9 := fun _ => by kernel_rfl, z9 := fun _ => by kernel_rfl, v9 := fun _ => by kernel_rfl, t46 := by kernel_rfl, a46 := fun _ => by kernel_rfl, z46 := fun _ => by kernel_rfl, v46 := fun _ => by kernel_rfl, t53 := by kernel_rfl, a53 := fun _ => by kernel_rfl, z53 := fun _ => by kernel_rfl, v53 := fun _ => by kernel_rfl }
theorem lz64_any (x : Int) (w : World) (h0 : 0 ≤ x) (h1 : x ≤ 18446744073709551615) :
    Calls Try.prog 106 #[.int .u64 x] w fun e w' => e = .returned (.int .i64 (64 - (Lib.bitLen x.toNat : Int))) ∧ w' = w := Any.bits_LeadingZeros64 lays134 x w h0 h1

end Go.Proofs.Ytefnagiffllhbaa
