/-
  Rows of words that are made whole and filled one by one.
-/
import Derived.Test.YtefnagiffllhbaaWd
import Derived.Laws.OwnMore
namespace Go.Proofs.Ytefnagiffllhbaa
open Go.RowKit

/-- n words, the k-th one f k. -/
def fillC (n : Nat) (f : Nat → Nat) : Array Value := ((List.range n).map fun k => Value.int .u64 (f k : Int)).toArray
def putF (f : Nat → Nat) (k v : Nat) : Nat → Nat := fun i => if i = k then v else f i
theorem fill_get {n k : Nat} (f : Nat → Nat) (h : k < n) : (fillC n f)[k]? = some (.int .u64 (f k : Int)) := by simp [fillC, h]
theorem fill_same {n : Nat} {f g : Nat → Nat} (h : ∀ i, i < n → f i = g i) : fillC n f = fillC n g := by
  unfold fillC
  congr 1
  exact List.map_congr_left fun i hi => by rw [h i (List.mem_range.1 hi)]
theorem fill_set {n : Nat} (f : Nat → Nat) (k v : Nat) : (fillC n f).setIfInBounds k (.int .u64 (v : Int)) = fillC n (putF f k v) := by
  apply Array.ext
  · simp [fillC]
  · intro i h1 h2
    simp [fillC] at h1 h2
    rw [Array.getElem_setIfInBounds (by simpa [fillC] using h1)]
    simp only [fillC, putF]
    split
    · subst_vars; simp
    · rename_i hne
      simp [show ¬ i = k from fun e => hne e.symm]
theorem fill_U64 (n : Nat) (f : Nat → Nat) : fillC n f = (U64 ((List.range n).map f)).toArray := by simp [fillC, U64]
theorem fill_rwd {w : World} {g n : Nat} {t : TypeId} {f : Nat → Nat} (h : Blk w g t (fillC n f)) (hf : ∀ i, i < n → f i < 18446744073709551616) (hn : n ≤ maxLen) : RWd w [.slice (some ⟨g, 0, none⟩) n n] ((List.range n).map f) := by
  rw [fill_U64] at h
  have := lw_lit h (fun x hx => by
    obtain ⟨i, hi, rfl⟩ := List.mem_map.1 hx
    exact hf i (List.mem_range.1 hi)) (by simpa using hn)
  simpa using this
theorem mk_n {P : Program} {t e : TypeId} {size bytes : Nat} {z : Value} (E : Elem P t e size bytes z) (n : Nat) (hb : bytes * n ≤ 281474976710656) (hn : (n : Int) ≤ 9223372036854775807) (w : World) :
    (Instr.makeSlice t (.int .i64 (n : Int)) (.int .i64 (n : Int))).run P w = .ok (.slice (some ⟨w.heap.size, 0, none⟩) n n) (w.alloc (.cells (madeCells z.cells (n * size)) e)) := by
  obtain ⟨ht, ⟨i, hi, hz, hs, hby⟩, hzs, hsz⟩ := E
  have := run_make (P := P) w t e i z ht hi hz .i64 .i64 (n : Int) (n : Int) (by omega) (Int.le_refl _) (by rw [hby, ← Int.natCast_mul]; exact Int.ofNat_le.2 hb) hn
  rw [Int.toNat_natCast, hs] at this
  exact this
theorem made_words (n : Nat) : madeCells (Value.int .u64 0).cells (n * 1) = fillC n fun _ => 0 := by
  apply Array.toList_inj.1
  rw [show (Value.int .u64 0).cells = #[.int .u64 0] from rfl, toList_madeCells_one]
  exact List.ext_getElem (by simp [fillC]) fun i h1 h2 => by simp [fillC]
theorem info_w : (Try.prog.info? 22).map (fun i => (i.zero, i.size, i.bytes)) = some (some (.int .u64 0), 1, 8) := by kernel_rfl
theorem el_w : Elem Try.prog 28 22 1 8 (.int .u64 0) := by
  obtain ⟨i0, hi, hz0, hz1, hz2⟩ := info_parts info_w
  exact ⟨Try.underlying28, ⟨i0, hi, hz0, hz1, hz2⟩, rfl, by omega⟩
theorem mk_words (n : Nat) (hn : n ≤ 1000000) (w : World) :
    (Instr.makeSlice 28 (.int .i64 (n : Int)) (.int .i64 (n : Int))).run Try.prog w = .ok (.slice (some ⟨w.heap.size, 0, none⟩) n n) (w.alloc (.cells (fillC n fun _ => 0) 22)) := by
  have := mk_n (P := Try.prog) el_w n (by omega) (by omega) w
  rw [made_words] at this
  exact this
end Go.Proofs.Ytefnagiffllhbaa

