/- A part of the proof: ColA. No condition. -/
import Derived.Test.YtakjnmojigechaaGreatJA32
import Derived.Test.YtakjnmojigechaaGreatJA16
import Derived.Test.YtakjnmojigechaaGreatJA25

namespace Go.Proofs.YtakjnmojigechaaGreat
open Go.RowKit
def fillV (n : Nat) (f : Nat → Value) : Array Value := ((List.range n).map f).toArray
theorem made_nilV (n : Nat) : madeCells (Value.slice none 0 0).cells (n * 1) = fillV n fun _ => .slice none 0 0 := by
  apply Array.toList_inj.1
  rw [show (Value.slice none 0 0).cells = #[.slice none 0 0] from rfl, toList_madeCells_one]
  exact List.ext_getElem (by simp [fillV]) fun i h1 h2 => by simp [fillV]
theorem mk_rows (n : Nat) (hn : n ≤ 1000000) (w : World) :
    (Instr.makeSlice 40 (.int .i64 (n : Int)) (.int .i64 (n : Int))).run Tryz.prog w = .ok (.slice (some ⟨w.heap.size, 0, none⟩) n n) (w.alloc (.cells (fillV n fun _ => .slice none 0 0) 28)) := by
  have := mk_n (P := Tryz.prog) el_ww n (by omega) (by omega) w
  rw [made_nilV] at this
  exact this
theorem vanP_lt {p b : Nat} (hp : 0 < p) (l : List Nat) : ∀ i k, vanP p b l i k < p
  | 0, _ => hp
  | i + 1, k => by
    simp only [vanP, putF]
    split
    · exact Nat.mod_lt _ hp
    · split
      · exact Nat.mod_lt _ hp
      · exact vanP_lt hp l i k
theorem mrowP_lt {L : LayR} (hp : 0 < L.p) (msg masks : List Nat) (k : Nat) : mrowP L msg masks k < L.p := by
  unfold mrowP plusP
  split
  · exact Nat.mod_lt _ hp
  · exact vanP_lt hp _ _ _
theorem linA_lt {p b : Nat} (hp : 0 < p) (l : List Nat) : ∀ k, linA p b l k < p
  | 0 => hp
  | _ + 1 => Nat.mod_lt _ hp
theorem rwx_fill {N g n : Nat} {gb : Option Nat} {w : World} {t : TypeId} {f : Nat → Nat} (h : Blk w g t (fillC n f)) (hf : ∀ i, i < n → f i < 18446744073709551616) (hn : n ≤ maxLen) (hN : N ≤ g) (hg : some g ≠ gb) : RWx N gb w (.slice (some ⟨g, 0, none⟩) n n) ((List.range n).map f) := by
  rw [fill_U64] at h
  exact rwx_blkn h (by simp) (fun x hx => by
    obtain ⟨i, hi, rfl⟩ := List.mem_map.1 hx
    exact hf i (List.mem_range.1 hi)) hn hN hg
theorem layLenN {L : LayR} (h : LayOk L) : LenOk L.p L.n ∧ L.n = 2 ^ L.n.log2 := by
  obtain ⟨j, hj⟩ := h.n
  refine ⟨⟨by have := h.nk; have := h.k; have := h.b1; omega, by have := h.n2; omega, ⟨j, hj⟩, h.nd⟩, ?_⟩
  rw [hj, Nat.log2_two_pow]
theorem fftP_lt {p : Nat} (hp : 0 < p) : ∀ (j : Nat) (a : Nat → Nat) (w k : Nat), (∀ i, a i < p) → fftP p j a w k < p
  | 0, _, _, k, h => h k
  | j + 1, a, w, k, _ => by
    simp only [fftP]
    split <;> exact Nat.mod_lt _ hp
theorem accP_lt {p n : Nat} (hp : 0 < p) (l : List Nat) (s : Nat) : ∀ i k, accP p n l s i k < p
  | 0, _ => hp
  | i + 1, k => by
    simp only [accP, putF]
    split
    · exact Nat.mod_lt _ hp
    · exact accP_lt hp l s i k
theorem evaP_lt {p : Nat} (hp : 0 < p) (n j : Nat) (l : List Nat) (s k : Nat) : evaP p n j l s k < p := fftP_lt hp _ _ _ _ (accP_lt hp _ _ _)
theorem gen_mod {p : Nat} (h : okP p = true) : (rowOf p).1 % p ≠ 0 := by
  rcases okP_cases h with rfl | rfl | rfl | rfl | rfl | rfl | rfl <;> decide
end Go.Proofs.YtakjnmojigechaaGreat
