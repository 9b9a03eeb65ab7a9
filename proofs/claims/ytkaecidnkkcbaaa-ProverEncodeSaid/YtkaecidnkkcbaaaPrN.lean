/-
  prover.Decode: where the parts of a proof lie while they are read; what stays.
-/
import Derived.Test.YtkaecidnkkcbaaaPrM
import Derived.Test.YtkaecidnkkcbaaaOrdV
namespace Go.Proofs.Ytkaecidnkkcbaaa
open Go.RowKit

/-- The proof under way: vals i is what part i's cell holds. -/
structure Dst (w : World) (B C4 C6 rt Q : Nat) (vals : Nat → Value) : Prop where
  pr : Blk w B 35 #[.int .u64 (rt : Int), vals 0, vals 1, vals 2, .slice (some ⟨C4, 0, none⟩) Q Q, vals (3 + Q), .slice (some ⟨C6, 0, none⟩) Q Q]
  cols : Blk w C4 28 ((List.range Q).map fun i => vals (3 + i)).toArray
  paths : Blk w C6 28 ((List.range Q).map fun i => vals (4 + Q + i)).toArray
def ptrOf (B C4 C6 Q i : Nat) : Addr := if i = 0 then ⟨B, 1, none⟩ else if i = 1 then ⟨B, 2, none⟩ else if i = 2 then ⟨B, 3, none⟩ else if i < 3 + Q then ⟨C4, i - 3, none⟩ else if i = 3 + Q then ⟨B, 5, none⟩ else ⟨C6, i - 4 - Q, none⟩
def upd (vals : Nat → Value) (i : Nat) (v : Value) : Nat → Value := fun k => if k = i then v else vals k
theorem upd_at (vals : Nat → Value) (i : Nat) (v : Value) : upd vals i v i = v := if_pos rfl
theorem upd_ne (vals : Nat → Value) (i : Nat) (v : Value) {k : Nat} (h : k ≠ i) : upd vals i v k = vals k := if_neg h
theorem upd_upd (vals : Nat → Value) (i : Nat) (v u : Value) : upd (upd vals i v) i u = upd vals i u := by
  funext k
  unfold upd
  split <;> rfl
theorem upd_self (vals : Nat → Value) (i : Nat) : upd vals i (vals i) = vals := by
  funext k
  unfold upd
  split
  · subst_vars; rfl
  · rfl
theorem ptr_form (B C4 C6 Q i : Nat) : ∃ b o, ptrOf B C4 C6 Q i = ⟨b, o, none⟩ ∧ (b = B ∨ b = C4 ∨ b = C6) := by
  unfold ptrOf
  split
  · exact ⟨_, _, rfl, .inl rfl⟩
  split
  · exact ⟨_, _, rfl, .inl rfl⟩
  split
  · exact ⟨_, _, rfl, .inl rfl⟩
  split
  · exact ⟨_, _, rfl, .inr (.inl rfl)⟩
  split
  · exact ⟨_, _, rfl, .inl rfl⟩
  · exact ⟨_, _, rfl, .inr (.inr rfl)⟩
theorem range_get {Q k : Nat} (f : Nat → Value) (h : k < Q) : ((List.range Q).map f).toArray[k]? = some (f k) := by simp [h]
theorem Dst.at_ {w : World} {B C4 C6 rt Q : Nat} {vals : Nat → Value} (h : Dst w B C4 C6 rt Q vals) {i : Nat} (hi : i < 4 + 2 * Q) : w.cell? (ptrOf B C4 C6 Q i) = some (vals i) ∧ w.frozen? (ptrOf B C4 C6 Q i) = false := by
  unfold ptrOf
  by_cases h0 : i = 0
  · subst h0; exact ⟨by simpa using h.pr.cell 1, h.pr.frozen 1⟩
  rw [if_neg h0]
  by_cases h1 : i = 1
  · subst h1; exact ⟨by simpa using h.pr.cell 2, h.pr.frozen 2⟩
  rw [if_neg h1]
  by_cases h2 : i = 2
  · subst h2; exact ⟨by simpa using h.pr.cell 3, h.pr.frozen 3⟩
  rw [if_neg h2]
  by_cases h3 : i < 3 + Q
  · rw [if_pos h3]
    refine ⟨?_, h.cols.frozen _⟩
    rw [h.cols.cell, range_get _ (by omega), show 3 + (i - 3) = i by omega]
  rw [if_neg h3]
  by_cases h4 : i = 3 + Q
  · subst h4; rw [if_pos rfl]; exact ⟨by simpa using h.pr.cell 5, h.pr.frozen 5⟩
  rw [if_neg h4]
  refine ⟨?_, h.paths.frozen _⟩
  rw [h.paths.cell, range_get _ (by omega), show 4 + Q + (i - 4 - Q) = i by omega]
theorem range_set (Q k : Nat) (f g : Nat → Value) (v : Value) (hk : g k = v) (h : ∀ i, i ≠ k → g i = f i) : ((List.range Q).map f).toArray.setIfInBounds k v = ((List.range Q).map g).toArray := by
  apply Array.ext
  · simp
  · intro i h1 h2
    simp at h1 h2
    rw [Array.getElem_setIfInBounds (by simpa using h1)]
    split
    · subst_vars; simp
    · simp
      exact (h i (by omega)).symm
theorem range_same (Q : Nat) (f g : Nat → Value) (h : ∀ i, i < Q → g i = f i) : ((List.range Q).map f).toArray = ((List.range Q).map g).toArray := by
  congr 1
  exact List.map_congr_left fun i hi => (h i (List.mem_range.1 hi)).symm
theorem Dst.set_ {w : World} {B C4 C6 rt Q : Nat} {vals : Nat → Value} (h : Dst w B C4 C6 rt Q vals) (n1 : B ≠ C4) (n2 : B ≠ C6) (n3 : C4 ≠ C6) {i : Nat} (hi : i < 4 + 2 * Q) (v : Value) : Dst (w.setCell (ptrOf B C4 C6 Q i) v) B C4 C6 rt Q (upd vals i v) := by
  have u := fun {k : Nat} (hk : k ≠ i) => upd_ne vals i v hk
  unfold ptrOf
  by_cases h0 : i = 0
  · subst h0
    rw [if_pos rfl]
    refine ⟨?_, ?_, ?_⟩
    · have := h.pr.set_ 1 v
      rw [upd_at, u (k := 1) (by omega), u (k := 2) (by omega), u (k := 3 + Q) (by omega)]
      simpa using this
    · rw [← range_same Q (fun i => vals (3 + i)) _ fun i _ => u (by omega)]
      exact h.cols.far (p := ⟨B, 1, none⟩) (Ne.symm n1) v
    · rw [← range_same Q (fun i => vals (4 + Q + i)) _ fun i _ => u (by omega)]
      exact h.paths.far (p := ⟨B, 1, none⟩) (Ne.symm n2) v
  rw [if_neg h0]
  by_cases h1 : i = 1
  · subst h1
    rw [if_pos rfl]
    refine ⟨?_, ?_, ?_⟩
    · have := h.pr.set_ 2 v
      rw [upd_at, u (k := 0) (by omega), u (k := 2) (by omega), u (k := 3 + Q) (by omega)]
      simpa using this
    · rw [← range_same Q (fun i => vals (3 + i)) _ fun i _ => u (by omega)]
      exact h.cols.far (p := ⟨B, 2, none⟩) (Ne.symm n1) v
    · rw [← range_same Q (fun i => vals (4 + Q + i)) _ fun i _ => u (by omega)]
      exact h.paths.far (p := ⟨B, 2, none⟩) (Ne.symm n2) v
  rw [if_neg h1]
  by_cases h2 : i = 2
  · subst h2
    rw [if_pos rfl]
    refine ⟨?_, ?_, ?_⟩
    · have := h.pr.set_ 3 v
      rw [upd_at, u (k := 0) (by omega), u (k := 1) (by omega), u (k := 3 + Q) (by omega)]
      simpa using this
    · rw [← range_same Q (fun i => vals (3 + i)) _ fun i _ => u (by omega)]
      exact h.cols.far (p := ⟨B, 3, none⟩) (Ne.symm n1) v
    · rw [← range_same Q (fun i => vals (4 + Q + i)) _ fun i _ => u (by omega)]
      exact h.paths.far (p := ⟨B, 3, none⟩) (Ne.symm n2) v
  rw [if_neg h2]
  by_cases h3 : i < 3 + Q
  · rw [if_pos h3]
    refine ⟨?_, ?_, ?_⟩
    · rw [u (k := 0) (by omega), u (k := 1) (by omega), u (k := 2) (by omega), u (k := 3 + Q) (by omega)]
      exact h.pr.far (p := ⟨C4, i - 3, none⟩) n1 v
    · rw [← range_set Q (i - 3) (fun i => vals (3 + i)) _ v (by show upd vals i v (3 + (i - 3)) = v; rw [show 3 + (i - 3) = i by omega, upd_at]) fun k hk => u (by omega)]
      exact h.cols.set_ (i - 3) v
    · rw [← range_same Q (fun i => vals (4 + Q + i)) _ fun k _ => u (by omega)]
      exact h.paths.far (p := ⟨C4, i - 3, none⟩) (Ne.symm n3) v
  rw [if_neg h3]
  by_cases h4 : i = 3 + Q
  · subst h4
    rw [if_pos rfl]
    refine ⟨?_, ?_, ?_⟩
    · have := h.pr.set_ 5 v
      rw [upd_at, u (k := 0) (by omega), u (k := 1) (by omega), u (k := 2) (by omega)]
      simpa using this
    · rw [← range_same Q (fun i => vals (3 + i)) _ fun i _ => u (by omega)]
      exact h.cols.far (p := ⟨B, 5, none⟩) (Ne.symm n1) v
    · rw [← range_same Q (fun i => vals (4 + Q + i)) _ fun i _ => u (by omega)]
      exact h.paths.far (p := ⟨B, 5, none⟩) (Ne.symm n2) v
  rw [if_neg h4]
  refine ⟨?_, ?_, ?_⟩
  · rw [u (k := 0) (by omega), u (k := 1) (by omega), u (k := 2) (by omega), u (k := 3 + Q) (by omega)]
    exact h.pr.far (p := ⟨C6, i - 4 - Q, none⟩) n2 v
  · rw [← range_same Q (fun i => vals (3 + i)) _ fun k _ => u (by omega)]
    exact h.cols.far (p := ⟨C6, i - 4 - Q, none⟩) n3 v
  · rw [← range_set Q (i - 4 - Q) (fun i => vals (4 + Q + i)) _ v (by show upd vals i v (4 + Q + (i - 4 - Q)) = v; rw [show 4 + Q + (i - 4 - Q) = i by omega, upd_at]) fun k hk => u (by omega)]
    exact h.paths.set_ (i - 4 - Q) v
theorem Dst.keep {w u : World} {B C4 C6 rt Q : Nat} {vals : Nat → Value} (h : Dst w B C4 C6 rt Q vals) (hB : u.heap[B]? = w.heap[B]?) (h4 : u.heap[C4]? = w.heap[C4]?) (h6 : u.heap[C6]? = w.heap[C6]?) : Dst u B C4 C6 rt Q vals :=
  ⟨hB.trans h.pr, h4.trans h.cols, h6.trans h.paths⟩

/-- The parts as prover.parts lists them. -/
theorem parts_length (L : LayR) (j B C4 C6 : Nat) : (partsOf L j B C4 0 C6 0).length = 4 + 2 * L.queries := by simp [partsOf, parts3, partsC]; omega
theorem parts_at (L : LayR) (j B C4 C6 : Nat) {i : Nat} (hi : i < 4 + 2 * L.queries) (h : i < (partsOf L j B C4 0 C6 0).length) : (partsOf L j B C4 0 C6 0)[i] = ⟨ptrOf B C4 C6 L.queries i, (psOf L j i).1, (psOf L j i).2⟩ := by
  have l3 : (parts3 L B).length = 3 := rfl
  have l4 : (parts3 L B ++ partsC C4 0 L.queries (L.a + L.b + L.b + L.b + 3) L.p).length = 3 + L.queries := by simp [parts3, partsC]; omega
  have l5 : (parts3 L B ++ partsC C4 0 L.queries (L.a + L.b + L.b + L.b + 3) L.p ++ [(⟨⟨B, 5, none⟩, L.queries, bigP⟩ : PartR)]).length = 4 + L.queries := by simp [parts3, partsC]; omega
  simp only [partsOf, ptrOf, psOf]
  by_cases h0 : i = 0
  · subst h0; rfl
  by_cases h1 : i = 1
  · subst h1; rfl
  by_cases h2 : i = 2
  · subst h2; rfl
  simp only [if_neg h0, if_neg h1, if_neg h2]
  by_cases h3 : i < 3 + L.queries
  · simp only [if_pos h3]
    rw [List.getElem_append_left (by omega), List.getElem_append_left (by omega), List.getElem_append_right (by omega)]
    simp [partsC, l3]
  simp only [if_neg h3]
  by_cases h4 : i = 3 + L.queries
  · subst h4
    simp only [if_pos trivial]
    rw [List.getElem_append_left (by omega), List.getElem_append_right (by omega)]
    simp [l4]
  simp only [if_neg h4]
  rw [List.getElem_append_right (by omega)]
  simp only [partsC, Nat.zero_add] at l5
  simp only [partsC, List.getElem_map, List.getElem_range, Nat.zero_add]
  congr 2
  omega

/-- Nothing that was there has changed, except blocks g, B, C4, C6. -/
structure Ex4 (g B C4 C6 : Nat) (w w' : World) : Prop where
  os : w'.os = w.os
  tape : w'.tape = w.tape
  output : w'.output = w.output
  size : w.heap.size ≤ w'.heap.size
  block : ∀ b, b < w.heap.size → b ≠ g → b ≠ B → b ≠ C4 → b ≠ C6 → w'.heap[b]? = w.heap[b]?
section
variable {g B C4 C6 : Nat} {w w' w'' : World}
theorem Ex4.refl (w : World) : Ex4 g B C4 C6 w w := ⟨rfl, rfl, rfl, Nat.le_refl _, fun _ _ _ _ _ _ => rfl⟩
theorem Ex4.trans (h : Ex4 g B C4 C6 w w') (k : Ex4 g B C4 C6 w' w'') : Ex4 g B C4 C6 w w'' :=
  ⟨k.os.trans h.os, k.tape.trans h.tape, k.output.trans h.output, Nat.le_trans h.size k.size, fun b h1 h2 h3 h4 h5 => (k.block b (Nat.lt_of_lt_of_le h1 h.size) h2 h3 h4 h5).trans (h.block b h1 h2 h3 h4 h5)⟩
theorem Ex4.below {N : Nat} (h : Below N w w') (hN : w.heap.size ≤ N) : Ex4 g B C4 C6 w w' := ⟨h.os, h.tape, h.output, h.size, fun b h1 _ _ _ _ => h.block b (by omega)⟩
theorem Ex4.grown (h : w.grownBy w' (some g)) : Ex4 g B C4 C6 w w' := ⟨h.os, h.tape, h.output, h.size, fun b h1 h2 _ _ _ => h.block b h1 (fun e => h2 (Option.some.inj e))⟩
theorem Ex4.set_ (w : World) {b o : Nat} (hb : b = B ∨ b = C4 ∨ b = C6) (v : Value) : Ex4 g B C4 C6 w (w.setCell ⟨b, o, none⟩ v) :=
  ⟨rfl, rfl, rfl, by simp [World.setCell], fun k _ _ h2 h3 h4 => Below.heap_setCell w _ v k (by rintro rfl; rcases hb with h | h | h <;> simp_all)⟩
theorem Ex4.to_below {N : Nat} (h : Ex4 g B C4 C6 w w') (hN : N ≤ w.heap.size) (h1 : N ≤ g) (h2 : N ≤ B) (h3 : N ≤ C4) (h4 : N ≤ C6) : Below N w w' :=
  ⟨h.os, h.tape, h.output, h.size, fun b hb => h.block b (by omega) (by omega) (by omega) (by omega) (by omega)⟩
end

/-- A list that has been read: where its words lie, from block lo on. -/
def Fin4 (lo : Nat) (w : World) (v : Value) (l : List Nat) : Prop := ∃ A n c, v = .slice A n c ∧ RWd w [.slice A n c] l ∧ ∀ ad, A = some ad → lo ≤ ad.block ∧ ad.block < w.heap.size
theorem fin_of_own {w : World} {base lo : Nat} {e : TypeId} {v : Value} {n : Nat} {l : List Nat} (h : w.ownsRow base e 1 v n (U64 l)) (hl : ∀ x ∈ l, x < 18446744073709551616) (hb : lo ≤ base) : Fin4 lo w v l := by
  obtain ⟨A, c, rfl, h1, h2, h3, h4⟩ := own_form h
  exact ⟨A, n, c, rfl, ⟨A, n, c, rfl, h1, h2, h3, hl⟩, fun ad e => ⟨Nat.le_trans hb (h4 ad e).1, (h4 ad e).2⟩⟩
theorem rd_agree {w u : World} {A : Option Addr} {n : Nat} {xs : List Value} (h : Rd w 1 A n xs) (ha : ∀ ad, A = some ad → u.heap[ad.block]? = w.heap[ad.block]?) : Rd u 1 A n xs :=
  ⟨h.1, fun hn => by
    obtain ⟨ad, e, hc⟩ := h.2 hn
    refine ⟨ad, e, fun j x hj => ?_⟩
    have := ha ad e
    rw [← hc j x hj]
    unfold World.cell?
    rw [blk_add, this]⟩
theorem fin_keep {lo : Nat} {w u : World} {v : Value} {l : List Nat} (h : Fin4 lo w v l) (hs : w.heap.size ≤ u.heap.size) (ha : ∀ b, lo ≤ b → b < w.heap.size → u.heap[b]? = w.heap[b]?) : Fin4 lo u v l := by
  obtain ⟨A, n, c, rfl, ⟨A', n', c', he, h1, h2, h3, h4⟩, h5⟩ := h
  simp at he
  obtain ⟨rfl, rfl, rfl⟩ := he
  exact ⟨A, n, c, rfl, ⟨A, n, c, rfl, h1, h2, rd_agree h3 fun ad e => ha _ (h5 ad e).1 (h5 ad e).2, h4⟩, fun ad e => ⟨(h5 ad e).1, Nat.lt_of_lt_of_le (h5 ad e).2 hs⟩⟩
theorem fin_ex4 {lo g B C4 C6 : Nat} {w u : World} {v : Value} {l : List Nat} (h : Fin4 lo w v l) (ha : Ex4 g B C4 C6 w u) (hg : g < lo) (hB : B < lo) (h4 : C4 < lo) (h6 : C6 < lo) : Fin4 lo u v l :=
  fin_keep h ha.size fun b h1 h2 => ha.block b h2 (by omega) (by omega) (by omega) (by omega)
theorem fin_rwd {lo : Nat} {w : World} {A : Option Addr} {n c : Nat} {l : List Nat} (h : Fin4 lo w (.slice A n c) l) : RWd w [.slice A n c] l := by
  obtain ⟨A', n', c', he, h1, -⟩ := h
  injection he with e1 e2 e3
  subst e1 e2 e3
  exact h1
/-- Lists in a block of slices. -/
theorem rsl_of_fin {lo C Q : Nat} {w : World} {t : TypeId} {vals : Nat → Value} {f : Nat → List Nat} (h : Blk w C t ((List.range Q).map vals).toArray) (hf : ∀ i, i < Q → Fin4 lo w (vals i) (f i)) (hq : Q ≤ maxLen) : RSl 1 RWd w [.slice (some ⟨C, 0, none⟩) Q Q] ((List.range Q).map f) := by
  refine ⟨_, _, _, rfl, by simp, Nat.le_refl _, hq, fun i hi => ?_⟩
  have hiq : i < Q := by simpa using hi
  obtain ⟨A, n, c, e, h1, -⟩ := hf i hiq
  refine ⟨_, [vals i], rfl, rfl, fun j hj => ?_, ?_⟩
  · have e0 : j = 0 := by omega
    subst e0
    have := h.cell i
    rw [range_get _ hiq] at this
    simp only [Nat.mul_one, Nat.add_zero, List.getElem?_cons_zero]
    rw [← this]
    congr 1
    unfold Addr.add
    split
    · subst_vars; rfl
    · simp
  · rw [e]
    simpa using h1
theorem ex4_cell {g B C4 C6 : Nat} {w w' : World} (h : Ex4 g B C4 C6 w w') {p : Addr} {v : Value} (hc : w.cell? p = some v) (h1 : p.block ≠ g) (h2 : p.block ≠ B) (h3 : p.block ≠ C4) (h4 : p.block ≠ C6) : w'.cell? p = some v := by
  rw [← hc]
  have := h.block p.block (World.block_lt_of_cell? _ _ hc) h1 h2 h3 h4
  simp only [World.cell?, this]
theorem ex4_blk {g B C4 C6 k : Nat} {w w' : World} {t : TypeId} {cs : Array Value} (h : Ex4 g B C4 C6 w w') (hb : Blk w k t cs) (h1 : k ≠ g) (h2 : k ≠ B) (h3 : k ≠ C4) (h4 : k ≠ C6) : Blk w' k t cs := (h.block k hb.lt h1 h2 h3 h4).trans hb
theorem ex4_hid {g B C4 C6 : Nat} {w0 w W : World} (hW : Hid (W = w.drew)) (h : Ex4 g B C4 C6 w0 w) : Ex4 g B C4 C6 w0 W := by rw [hW.out]; exact ⟨h.os, h.tape, h.output, h.size, h.block⟩
theorem dst_hid {w W : World} {B C4 C6 rt Q : Nat} {vals : Nat → Value} (hW : Hid (W = w.drew)) (h : Dst w B C4 C6 rt Q vals) : Dst W B C4 C6 rt Q vals := by rw [hW.out]; exact ⟨h.pr, h.cols, h.paths⟩
theorem wr_hid {w W : World} {g : Nat} {bd : Nat × Nat} {l : List Nat} {f : Bool} (hW : Hid (W = w.drew)) (h : WR w g bd l f) : WR W g bd l f := by rw [hW.out]; exact h
theorem dec_start0 {w u : World} {g B C4 C6 rt Q : Nat} {bd : Nat × Nat} {l : List Nat} {f : Bool} (kz : Blk u B 35 #[.int .u64 (rt : Int), .slice none 0 0, .slice none 0 0, .slice none 0 0, .slice (some ⟨C4, 0, none⟩) Q Q, .slice none 0 0, .slice (some ⟨C6, 0, none⟩) Q Q])
    (lB : B < w.heap.size) (hsz : u.heap.size = w.heap.size) (hr2 : WR u g bd l f) (hex : Ex4 g B C4 C6 w u) (hC : (C4 = w.heap.size ∧ C6 = w.heap.size + 1) ∨ (C6 = w.heap.size ∧ C4 = w.heap.size + 1)) {CS : Array Value} (hCS : CS = ((List.range Q).map fun _ => Value.slice none 0 0).toArray) :
    B < C4 ∧ B < C6 ∧ C4 ≠ C6 ∧ Dst ((u.alloc (.cells CS 28)).alloc (.cells CS 28)).drew B C4 C6 rt Q (fun _ => .slice none 0 0) ∧
    WR ((u.alloc (.cells CS 28)).alloc (.cells CS 28)).drew g bd l f ∧
    Ex4 g B C4 C6 w ((u.alloc (.cells CS 28)).alloc (.cells CS 28)).drew := by
  have b1 := (Blk.new u 28 CS).alloc (.cells CS 28)
  have b2 := Blk.new (u.alloc (.cells CS 28)) 28 CS
  have hs2 : (u.alloc (.cells CS 28)).heap.size = w.heap.size + 1 := by simp [hsz]
  rw [hsz] at b1
  rw [hs2] at b2
  have hal : Below u.heap.size u ((u.alloc (.cells CS 28)).alloc (.cells CS 28)) := ((Below.refl _ u).alloc (Nat.le_refl _) _).alloc (by simp) _
  have hd : Dst ((u.alloc (.cells CS 28)).alloc (.cells CS 28)) B C4 C6 rt Q (fun _ => .slice none 0 0) := by
    subst hCS
    rcases hC with ⟨rfl, rfl⟩ | ⟨rfl, rfl⟩
    · exact ⟨(kz.alloc _).alloc _, b1, b2⟩
    · exact ⟨(kz.alloc _).alloc _, b2, b1⟩
  exact ⟨by omega, by omega, by omega, ⟨hd.pr.drew, hd.cols.drew, hd.paths.drew⟩, (hr2.below hal (Nat.le_refl _)).drew, hex.trans (Ex4.below hal.drew (Nat.le_refl _))⟩
/-- The two rows are made and stored, in whatever order. -/
theorem dec_start {w : World} {g B C4 C6 rt Q : Nat} {bd : Nat × Nat} {l : List Nat} {f : Bool} (kB : Blk w B 35 #[.int .u64 (rt : Int), .slice none 0 0, .slice none 0 0, .slice none 0 0, .slice none 0 0, .slice none 0 0, .slice none 0 0])
    (hr : WR w g bd l f) (hg : g < B) (hbd : bd.2 ≤ g) (hC : (C4 = w.heap.size ∧ C6 = w.heap.size + 1) ∨ (C6 = w.heap.size ∧ C4 = w.heap.size + 1)) {CS : Array Value} (hCS : CS = ((List.range Q).map fun _ => Value.slice none 0 0).toArray) :
    B < C4 ∧ B < C6 ∧ C4 ≠ C6 ∧ Dst ((((w.setCell ⟨B, 4, none⟩ (.slice (some ⟨C4, 0, none⟩) Q Q)).setCell ⟨B, 6, none⟩ (.slice (some ⟨C6, 0, none⟩) Q Q)).alloc (.cells CS 28)).alloc (.cells CS 28)).drew B C4 C6 rt Q (fun _ => .slice none 0 0) ∧
    WR ((((w.setCell ⟨B, 4, none⟩ (.slice (some ⟨C4, 0, none⟩) Q Q)).setCell ⟨B, 6, none⟩ (.slice (some ⟨C6, 0, none⟩) Q Q)).alloc (.cells CS 28)).alloc (.cells CS 28)).drew g bd l f ∧
    Ex4 g B C4 C6 w ((((w.setCell ⟨B, 4, none⟩ (.slice (some ⟨C4, 0, none⟩) Q Q)).setCell ⟨B, 6, none⟩ (.slice (some ⟨C6, 0, none⟩) Q Q)).alloc (.cells CS 28)).alloc (.cells CS 28)).drew := by
  have lB := kB.lt
  have kz := (kB.set_ 4 (.slice (some ⟨C4, 0, none⟩) Q Q)).set_ 6 (.slice (some ⟨C6, 0, none⟩) Q Q)
  simp at kz
  have hsz : ((w.setCell ⟨B, 4, none⟩ (.slice (some ⟨C4, 0, none⟩) Q Q)).setCell ⟨B, 6, none⟩ (.slice (some ⟨C6, 0, none⟩) Q Q)).heap.size = w.heap.size := by simp [World.setCell]
  have hgr : w.grownBy ((w.setCell ⟨B, 4, none⟩ (.slice (some ⟨C4, 0, none⟩) Q Q)).setCell ⟨B, 6, none⟩ (.slice (some ⟨C6, 0, none⟩) Q Q)) (some B) := by
    iterate 2 refine grown_setCell' ?_ (.inl rfl) _
    exact grown_refl' w _
  have hr2 := hr.grown hgr fun k e => by have := Option.some.inj e; omega
  have hex : Ex4 g B C4 C6 w ((w.setCell ⟨B, 4, none⟩ (.slice (some ⟨C4, 0, none⟩) Q Q)).setCell ⟨B, 6, none⟩ (.slice (some ⟨C6, 0, none⟩) Q Q)) := ⟨hgr.os, hgr.tape, hgr.output, hgr.size, fun b h1 h2 h3 _ _ => hgr.block b h1 fun e => h3 (Option.some.inj e)⟩
  exact dec_start0 kz lB hsz hr2 hex hC hCS

theorem rdUint_rest (most : Nat) (l : List Nat) (f : Bool) : ∀ x ∈ (rdUint most l f).2.1, x ∈ l := by
  intro x hx
  unfold rdUint rdDig at hx
  split at hx <;> split at hx <;> first | exact hx | exact List.mem_of_mem_drop hx
theorem rdUint_lt (most : Nat) (l : List Nat) (f : Bool) (hl : ∀ x ∈ l, x < 256) : (rdUint most l f).1 < 18446744073709551616 := by
  unfold rdUint
  split
  · simp
  · exact rdDig_lt (k := 8) hl
theorem rdMany_lt (most : Nat) : ∀ (k : Nat) (l : List Nat) (f : Bool), (∀ x ∈ l, x < 256) → (∀ x ∈ (rdMany most k l f).1, x < 18446744073709551616) ∧ ∀ x ∈ (rdMany most k l f).2.1, x < 256
  | 0, l, f, h => ⟨fun x hx => by simp [rdMany] at hx, h⟩
  | k + 1, l, f, h => by
    obtain ⟨h1, h2⟩ := rdMany_lt most k l f h
    rw [rdMany]
    refine ⟨fun x hx => ?_, fun x hx => h2 x (rdUint_rest _ _ _ x hx)⟩
    rcases List.mem_append.1 hx with hx | hx
    · exact h1 x hx
    · rw [List.mem_singleton] at hx
      rw [hx]
      exact rdUint_lt _ _ _ h2
theorem stAt_lt (ps : Nat → Nat × Nat) (l : List Nat) (f : Bool) (h : ∀ x ∈ l, x < 256) : ∀ i, ∀ x ∈ (stAt ps l f i).1, x < 256
  | 0 => h
  | i + 1 => (rdMany_lt _ _ _ _ (stAt_lt ps l f h i)).2
end Go.Proofs.Ytkaecidnkkcbaaa

