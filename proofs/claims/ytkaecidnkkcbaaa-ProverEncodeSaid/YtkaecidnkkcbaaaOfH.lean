/-
  Cutting a list of words into the parts of a proof: data and lemmas.
-/
import Derived.Test.YtkaecidnkkcbaaaOrdF
namespace Go.Proofs.Ytkaecidnkkcbaaa
open Go.RowKit

def chunks (n size : Nat) (l : List Nat) : List (List Nat) := (List.range n).map fun i => (l.drop (i * size)).take size
/-- The proof that some numbers make. -/
def ofNums (L : LayR) (j : Nat) (x : List Nat) : ProofR :=
  let a := 1 + L.k
  let b := L.k + L.block - 1
  let c := 2 * L.k - 1
  let t := L.a + L.b + L.b + L.b + 3
  { root := x.getD 0 0, code := (x.drop 1).take L.k, linear := (x.drop a).take b, quad := ((x.drop a).drop b).take c,
    cols := chunks L.queries t (((x.drop a).drop b).drop c), salts := ((((x.drop a).drop b).drop c).drop (L.queries * t)).take L.queries,
    paths := chunks L.queries j (((((x.drop a).drop b).drop c).drop (L.queries * t)).drop L.queries) }

/-- A slice that reads as these words in every world of a class. -/
def RWF (C : World → Prop) (cs : List Value) (l : List Nat) : Prop := ∀ u, C u → RWd u cs l
/-- A slice of words, cut: the walk's equation, and what it reads as. -/
structure Cut (C : World → Prop) (A : Option Addr) (l h c : Nat) (A' : Option Addr) (n' c' : Nat) (y : List Nat) : Prop where
  eq : sliced A l h c 1 = .slice A' n' c'
  rd : RWF C [.slice A' n' c'] y
theorem cut_get {C : World → Prop} {w : World} {A : Option Addr} {n c : Nat} {x : List Nat} (h : RWF C [.slice A n c] x) (hC : C w) (l k : Nat) (hlk : l + k ≤ x.length) : ∃ A' c', Cut C A l (l + k) c A' k c' ((x.drop l).take k) ∧ k ≤ c' ∧ c' ≤ c := by
  obtain ⟨A', h1, h2⟩ := words_cut (h w hC) l k hlk
  have := (word_at h2).2.1
  refine ⟨A', c - l, ⟨h1, fun v hv => ?_⟩, this, by omega⟩
  obtain ⟨A2, k1, k2⟩ := words_cut (h v hv) l k hlk
  rw [h1] at k1
  injection k1 with k1
  rw [k1]
  exact k2
theorem head_get {C : World → Prop} {A : Option Addr} {n c : Nat} {x : List Nat} (h : RWF C [.slice A n c] x) (k : Nat) (hk : k ≤ x.length) : RWF C [.slice A k c] (x.take k) := fun v hv => by
  obtain ⟨rfl, h1, h2, h3, hrd⟩ := word_at (h v hv)
  refine ⟨_, _, _, rfl, by omega, h2, ?_, fun y hy => h3 y (List.mem_of_mem_take hy)⟩
  have e : U64 (x.take k) = (U64 x).take (k * 1) := by simp [U64]
  rw [e]
  exact hrd.take hk
theorem from_get {C : World → Prop} {w : World} {A : Option Addr} {n c : Nat} {x : List Nat} (h : RWF C [.slice A n c] x) (hC : C w) (l : Nat) (hl : l ≤ x.length) : ∃ A' n' c', Cut C A l n c A' n' c' (x.drop l) ∧ n' + l = n ∧ n' ≤ c' := by
  obtain ⟨A', h1, h2⟩ := words_from (h w hC) l hl
  have := (word_at h2).2.1
  have := (word_at (h w hC)).1
  refine ⟨A', n - l, c - l, ⟨h1, fun v hv => ?_⟩, by omega, by omega⟩
  obtain ⟨A2, k1, k2⟩ := words_from (h v hv) l hl
  rw [h1] at k1
  injection k1 with k1
  rw [k1]
  exact k2

theorem set7_blk {w : World} {g : Nat} {t : TypeId} {y0 y1 y2 y3 y4 y5 y6 : Value} (k : Blk w g t #[y0, y1, y2, y3, y4, y5, y6]) (x0 x1 x2 x3 x4 x5 x6 : Value) : Blk (((((((w.setCell ⟨g, 0, none⟩ x0).setCell ⟨g, 1, none⟩ x1).setCell ⟨g, 2, none⟩ x2).setCell ⟨g, 3, none⟩ x3).setCell ⟨g, 4, none⟩ x4).setCell ⟨g, 5, none⟩ x5).setCell ⟨g, 6, none⟩ x6) g t #[x0, x1, x2, x3, x4, x5, x6] := by
  have h := (((((((k.set_ 0 x0).set_ 1 x1).set_ 2 x2).set_ 3 x3).set_ 4 x4).set_ 5 x5).set_ 6 x6)
  simpa using h
theorem set7_below {w w0 : World} {g B : Nat} (h : Below B w0 w) (hg : B ≤ g) (x0 x1 x2 x3 x4 x5 x6 : Value) : Below B w0 (((((((w.setCell ⟨g, 0, none⟩ x0).setCell ⟨g, 1, none⟩ x1).setCell ⟨g, 2, none⟩ x2).setCell ⟨g, 3, none⟩ x3).setCell ⟨g, 4, none⟩ x4).setCell ⟨g, 5, none⟩ x5).setCell ⟨g, 6, none⟩ x6) := (((((((h.setCell hg x0).setCell hg x1).setCell hg x2).setCell hg x3).setCell hg x4).setCell hg x5).setCell hg x6)

theorem set7_grown {w : World} {g : Nat} (x0 x1 x2 x3 x4 x5 x6 : Value) : w.grownBy (((((((w.setCell ⟨g, 0, none⟩ x0).setCell ⟨g, 1, none⟩ x1).setCell ⟨g, 2, none⟩ x2).setCell ⟨g, 3, none⟩ x3).setCell ⟨g, 4, none⟩ x4).setCell ⟨g, 5, none⟩ x5).setCell ⟨g, 6, none⟩ x6) (some g) := by
  iterate 7 refine grown_setCell' ?_ (.inl rfl) _
  exact grown_refl' w _

/-- The rest of the words, after k parts. -/
def OfCut (C : World → Prop) (T k : Nat) (Y : List Nat) (x : Value) : Prop := ∃ A n c, x = .slice A n c ∧ RWF C [.slice A n c] (Y.drop (k * T))
/-- The parts cut off so far. -/
def OfRows (C : World → Prop) (T k : Nat) (Y : List Nat) (cs : List Value) : Prop := cs.length = k ∧ ∀ (i : Nat) (h : i < cs.length), RWF C [cs[i]] ((Y.drop (i * T)).take T)
theorem ofCut_next {C : World → Prop} {T k : Nat} {Y : List Nat} {A : Option Addr} {n c : Nat} (h : RWF C [.slice A n c] ((Y.drop (k * T)).drop T)) : OfCut C T (k + 1) Y (.slice A n c) := ⟨A, n, c, rfl, by
  rw [List.drop_drop] at h
  rwa [Nat.succ_mul]⟩
theorem ofRows_next {C : World → Prop} {T k : Nat} {Y : List Nat} {cs : List Value} {u : Value} (h : OfRows C T k Y cs) (hu : RWF C [u] ((Y.drop (k * T)).take T)) : OfRows C T (k + 1) Y (cs ++ [u]) := by
  refine ⟨by simp [h.1], fun i hi => ?_⟩
  by_cases h1 : i < cs.length
  · rw [List.getElem_append_left h1]
    exact h.2 i h1
  · have e : i = k := by have := h.1; simp at hi; omega
    subst e
    rw [List.getElem_append_right (by omega)]
    simpa using hu
theorem chunks_len (n s : Nat) (l : List Nat) : (chunks n s l).length = n := by simp [chunks]
theorem chunks_get (n s : Nat) (l : List Nat) (i : Nat) (h : i < (chunks n s l).length) : (chunks n s l)[i] = (l.drop (i * s)).take s := by simp [chunks]
theorem rsl_of_own {C : World → Prop} {wf : World} {base T k : Nat} {e : TypeId} {A : Option Addr} {c : Nat} {Y : List Nat} {cs : List Value} (h : wf.ownsRow base e 1 (.slice A k c) k cs) (hr : OfRows C T k Y cs) (hC : C wf) : RSl 1 RWd wf [.slice A k c] (chunks k T Y) := by
  obtain ⟨A', c', he, h1, h2, h3, -⟩ := own_form h
  simp at he
  obtain ⟨rfl, rfl⟩ := he
  refine ⟨A, k, c, rfl, chunks_len _ _ _, h1, h2, fun i hi => ?_⟩
  have hik : i < k := by rwa [chunks_len] at hi
  have hic : i < cs.length := by rw [hr.1]; exact hik
  obtain ⟨ad, e, hc⟩ := h3.2 (by omega)
  refine ⟨ad, [cs[i]], e, rfl, fun j hj => ?_, ?_⟩
  · have e0 : j = 0 := by omega
    subst e0
    rw [Nat.mul_one, Nat.add_zero, hc i _ (List.getElem?_eq_getElem hic)]
    rfl
  · rw [chunks_get]
    exact hr.2 i hic _ hC
/-- A row that the call owns is owned in every world that agrees from the base on. -/
theorem own_agree {w u : World} {base : Nat} {e : TypeId} {size : Nat} {v : Value} {n : Nat} {xs : List Value} (h : w.ownsRow base e size v n xs) (ha : ∀ b, base ≤ b → b < w.heap.size → u.heap[b]? = w.heap[b]?) : u.ownsRow base e size v n xs := by
  obtain ⟨h1, h2⟩ := h
  refine ⟨h1, ?_⟩
  rcases h2 with h2 | ⟨g, cap, cur, hv, hgb, hh, r⟩
  · exact Or.inl h2
  · exact Or.inr ⟨g, cap, cur, hv, hgb, by rw [ha g hgb (Array.getElem?_eq_some_iff.1 hh).1]; exact hh, r⟩
theorem own_grownby {w w' : World} {base B : Nat} {e : TypeId} {size : Nat} {v : Value} {n : Nat} {xs : List Value} (h : w.ownsRow base e size v n xs) (hg : w.grownBy w' (some B)) (hB : B < base) : w'.ownsRow base e size v n xs := by
  obtain ⟨h1, h2⟩ := h
  refine ⟨h1, ?_⟩
  rcases h2 with h2 | ⟨g, cap, cur, hv, hgb, hh, r⟩
  · exact Or.inl h2
  · exact Or.inr ⟨g, cap, cur, hv, hgb, by rw [hg.block g (Array.getElem?_eq_some_iff.1 hh).1 (fun e => by have := Option.some.inj e; omega)]; exact hh, r⟩
theorem blk_hid {w W : World} {g : Nat} {t : TypeId} {cs : Array Value} (hW : Hid (W = w.drew)) (h : Blk w g t cs) : Blk W g t cs := by rw [hW.out]; exact h
theorem grown_hid {w0 w W : World} {r : Option Nat} (hW : Hid (W = w.drew)) (h : w0.grownBy w r) : w0.grownBy W r := by rw [hW.out]; exact grown_drew' h
theorem info_words : (Try.prog.info? 28).map (fun i => (i.zero, i.size, i.bytes)) = some (some (.slice none 0 0), 1, 24) := by kernel_rfl
theorem el_lists : Elem Try.prog 33 28 1 24 (.slice none 0 0) := by
  obtain ⟨i0, hi, hz0, hz1, hz2⟩ := info_parts info_words
  exact ⟨Try.underlying33, ⟨i0, hi, hz0, hz1, hz2⟩, rfl, by omega⟩
theorem one_slice (A : Option Addr) (n c : Nat) : ∀ u ∈ [Value.slice A n c], u.oneCell' = true := by
  intro u hu
  simp at hu
  subst hu
  rfl
end Go.Proofs.Ytkaecidnkkcbaaa

