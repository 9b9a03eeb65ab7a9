/- A part of the proof: OrdV, OrdG, Wd, FldA, FldB, FldC, SamA, RowG, RowF, Arr, TrA, Own, OwnK. No condition. -/
import Derived.Test.YtakjnmojigechaaGreatJA9
import Derived.Test.YtakjnmojigechaaGreatJA15
import Derived.Shelf.Spec.BitsCarry
import Derived.Test.YtakjnmojigechaaGreatJA10
import Derived.Laws.OwnMore

namespace Go.Proofs.YtakjnmojigechaaGreat
open Go.RowKit
def past (bars : List Nat) (listed : Array Bool) : Bool := bars.any fun b => listed.getD b true
theorem past_set {bars : List Nat} {listed : Array Bool} {j : Nat} (h : j ∉ bars) : past bars (listed.setIfInBounds j true) = past bars listed := by
  unfold past
  induction bars with
  | nil => rfl
  | cons b r ih =>
    simp only [List.mem_cons, not_or] at h
    simp only [List.any_cons]
    rw [getD_set_ne true h.1, ih h.2]
section
variable {P : Program} {ops : Array Oper} {Q : Exit → Act → World → Prop} {bars : List Nat} {S : World → Prop}
def wpAnyB (P : Program) (ops : Array Oper) (Q : Exit → Act → World → Prop) (bars : List Nat) (S : World → Prop) : Nat → Array Bool → Act → World → Prop
  | 0, listed, a, w => Region.ready .any ops listed = [] ∧ Q .normal a w
  | fuel + 1, listed, a, w =>
    (Region.ready .any ops listed = [] → Q .normal a w) ∧
    ∀ i ∈ Region.ready .any ops listed, wpOp P ops Q i (fun a' w' => (past bars (listed.setIfInBounds i true) = false → S w') ∧ wpAnyB P ops Q bars S fuel (listed.setIfInBounds i true) a' w') a w
theorem wpAny_of_B : ∀ (fuel : Nat) (listed : Array Bool) (a : Act) (w : World), wpAnyB P ops Q bars S fuel listed a w → wpAny P .any ops Q fuel listed a w
  | 0, _, _, _, h => h
  | fuel + 1, _, _, _, h => ⟨h.1, fun i hi => wpOp_mono (fun a' w' h' => wpAny_of_B fuel _ a' w' h'.2) (h.2 i hi)⟩
theorem wpAnyB_sub {S' : World → Prop} (hS : ∀ w, S' w → S w) : ∀ (fuel : Nat) (listed : Array Bool) (a : Act) (w : World), wpAnyB P ops Q bars S' fuel listed a w → wpAnyB P ops Q bars S fuel listed a w
  | 0, _, _, _, h => h
  | fuel + 1, _, _, _, h => ⟨h.1, fun i hi => wpOp_mono (fun a' w' h' => ⟨fun hp => hS _ (h'.1 hp), wpAnyB_sub hS fuel _ a' w' h'.2⟩) (h.2 i hi)⟩
theorem past_mono {listed : Array Bool} {i : Nat} (h : past bars listed = true) : past bars (listed.setIfInBounds i true) = true := by
  unfold past at *
  rw [List.any_eq_true] at *
  obtain ⟨b, hb, h1⟩ := h
  refine ⟨b, hb, ?_⟩
  by_cases e : i = b
  · subst e
    rcases Nat.lt_or_ge i listed.size with h2 | h2
    · simp [h2]
    · simp [Nat.not_lt.2 h2]
  · rw [getD_set_ne true e]; exact h1
theorem wpAnyB_past {S' : World → Prop} : ∀ (fuel : Nat) (listed : Array Bool) (a : Act) (w : World), past bars listed = true → wpAnyB P ops Q bars S' fuel listed a w → wpAnyB P ops Q bars S fuel listed a w
  | 0, _, _, _, _, h => h
  | fuel + 1, _, _, _, hp, h => ⟨h.1, fun i hi => wpOp_mono (fun a' w' h' => ⟨fun hp' => (by rw [past_mono hp] at hp'; cases hp'), wpAnyB_past fuel _ a' w' (past_mono hp) h'.2⟩) (h.2 i hi)⟩
theorem wpAnyB_first {T : World → Prop} {i : Nat} {oi : Oper} {v : Value} (hi : ops[i]? = some oi) (hsel : ∀ (j : Nat) (o : Oper) cs b, ops[j]? = some o → o.op ≠ .select cs b)
    (hQ : ∀ c a w, Q (.panic c) (a.put oi.dst v) w → Q (.panic c) a w) (hib : i ∉ bars)
    (hT : (∀ w, T w) ∨ ((∀ w, S w → T w) ∧ ∀ b ∈ bars, ∀ ob, ops[b]? = some ob → ∃ e ∈ ob.after, Region.binds .any e = true ∧ e.on = i)) :
    ∀ (fuel : Nat) (listed : Array Bool) (a : Act) (w : World), ((∀ w, T w) ∨ past bars listed = false) →
      (∀ j oj, ops[j]? = some oj → j ≠ i → listed.getD j true = false → (∀ e ∈ oj.after, Region.binds .any e = true → e.on ≠ i) → oi.apart ops oj = true) →
      i ∈ Region.ready .any ops listed → YieldsIf P ops T oi v a → T w → (past bars listed = false → S w) →
      wpAnyB P ops Q bars S fuel (listed.setIfInBounds i true) (a.put oi.dst v) w → wpAnyB P ops Q bars S (fuel + 1) listed a w := by
  intro fuel
  induction fuel with
  | zero =>
    intro listed a w hpl _ hr hy hTw hS H
    refine ⟨fun h => (by rw [h] at hr; cases hr), fun j hj => ?_⟩
    by_cases hji : j = i
    · subst hji; exact hy.wpOp hi hTw ⟨fun hp => hS (by rwa [past_set hib] at hp), H⟩
    · have := ready_mono hj hji
      rw [H.1] at this
      cases this
  | succ fuel ih =>
    intro listed a w hpl hfree hr hy hTw hS H
    refine ⟨fun h => (by rw [h] at hr; cases hr), fun j hj => ?_⟩
    by_cases hji : j = i
    · subst hji; exact hy.wpOp hi hTw ⟨fun hp => hS (by rwa [past_set hib] at hp), H⟩
    · have h1 := H.2 j (ready_mono hj hji)
      obtain ⟨hjun, oj, hoj, hall⟩ := mem_ready.1 hj
      have hnot : ∀ e ∈ oj.after, Region.binds .any e = true → e.on ≠ i := fun e he hb heq => by
        have h1 := hall e he hb
        have h0 := (mem_ready.1 hr).1
        rw [heq] at h1
        rcases Nat.lt_or_ge i listed.size with h' | h'
        · simp [h'] at h0 h1; rw [h0] at h1; cases h1
        · simp [Array.getElem?_eq_none h'] at h1
      have h2 := wpOp_putIf hoj (hfree j oj hoj hji hjun hnot) (fun cs b => hsel i oi cs b hi) (fun cs b => hsel j oj cs b hoj) hQ hy h1
      have hfree' : ∀ k ok, ops[k]? = some ok → k ≠ i → (listed.setIfInBounds j true).getD k true = false →
          (∀ e ∈ ok.after, Region.binds .any e = true → e.on ≠ i) → oi.apart ops ok = true := fun k ok hk hki hun hno => by
        refine hfree k ok hk hki ?_ hno
        by_cases hjk : j = k
        · subst hjk; exact hjun
        · rw [getD_set_ne true hjk] at hun; exact hun
      have hpe : past bars ((listed.setIfInBounds i true).setIfInBounds j true) = past bars (listed.setIfInBounds j true) := by
        rw [Array.setIfInBounds_comm _ _ (Ne.symm hji), past_set hib]
      refine wpOp_mono (fun a' w' h3 => ?_) h2
      have hS' : past bars (listed.setIfInBounds j true) = false → S w' := fun hp => h3.2.1 (by rw [hpe]; exact hp)
      have hboth : ((∀ w, T w) ∨ past bars (listed.setIfInBounds j true) = false) ∧ T w' := by
        rcases hT with hT | ⟨hST, hbar⟩
        · exact ⟨.inl hT, hT w'⟩
        · rcases hpl with hpl | hpl
          · exact ⟨.inl hpl, hpl w'⟩
          · have hjb : j ∉ bars := fun hb => by
              obtain ⟨e, he, hbi, hei⟩ := hbar j hb oj hoj
              exact hnot e he hbi hei
            have hp' : past bars (listed.setIfInBounds j true) = false := by rw [past_set hjb]; exact hpl
            exact ⟨.inr hp', hST _ (hS' hp')⟩
      refine ⟨hS', ih (listed.setIfInBounds j true) a' w' hboth.1 hfree' (ready_mono hr (Ne.symm hji)) h3.1 hboth.2 hS' ?_⟩
      rw [Array.setIfInBounds_comm _ _ hji]
      exact h3.2.2
end
def wpB (P : Program) (ops : Array Oper) (Q : Exit → Act → World → Prop) (bars : List Nat) (R : World → World → Prop) (fuel : Nat) (listed : Array Bool) (a : Act) (w : World) : Prop :=
  wpAnyB P ops Q bars (R w) fuel listed a w
def waits (l : List Oper) (b i : Nat) : Bool := match l[b]? with | some o => o.after.any fun e => Region.binds .any e && e.on == i | none => true
def okOrdV (l : List Oper) (hs bars : List Nat) : List Nat → Array Bool → Bool
  | [], listed => (Region.ready .any l.toArray listed).isEmpty
  | i :: rest, listed => decide (i < l.length) && (Region.ready .any l.toArray listed).contains i &&
      (if hs.contains i then Region.ready .any l.toArray listed == [i] else Region.free .any l.toArray listed i && !bars.contains i && (past bars listed || bars.all fun b => waits l b i)) && okOrdV l hs bars rest (listed.setIfInBounds i true)
def wpV (P : Program) (l : List Oper) (hs bars : List Nat) (Q : Exit → Act → World → Prop) (R : World → World → Prop) (order : List Nat) (listed : Array Bool) (a : Act) (w : World) : Prop :=
  Region.noSelect l.toArray = true → okOrdV l hs bars order listed = true → wpB P l.toArray Q bars R order.length listed a w
section
variable {P : Program} {l : List Oper} {hs bars : List Nat} {Q : Exit → Act → World → Prop} {R : World → World → Prop} {rest : List Nat} {i : Nat} {o : Oper} {listed : Array Bool} {a : Act} {w : World}
theorem wpV_begin {id : Nat} (R : World → World → Prop) (hs bars order : List Nat) (hm : P.follows .mixedOrders = true) (hok : (Region.noSelect l.toArray && order.length == l.length && okOrdV l hs bars order (List.replicate l.length false).toArray) = true)
    (h : wpV P l hs bars Q R order (List.replicate l.length false).toArray a w.drew) : (Code.region id l.toArray true).wp P Q a w := by
  simp only [Bool.and_eq_true, beq_iff_eq] at hok
  refine wp_region_any hm (wpAny_of_B (bars := bars) (S := R w.drew) _ _ _ _ ?_)
  have h2 := h hok.1.1 hok.2
  have e : Array.replicate l.toArray.size false = (List.replicate l.length false).toArray := by simp
  rw [hok.1.2] at h2
  rw [e]
  simpa [wpB] using h2
theorem wpV_startK (M : Moves R) {order : List Nat} (h : ∀ W, Hid (W = w) → R w W → wpV P l hs bars Q R order listed a W) : wpV P l hs bars Q R order listed a w := h w rfl (M.refl w)
theorem wpV_done (h : Q .normal a w) : wpV P l hs bars Q R [] listed a w := fun _ hok => ⟨by simpa [okOrdV] using hok, h⟩
theorem okOrdV_cons (h : okOrdV l hs bars (i :: rest) listed = true) : i < l.length ∧ (Region.ready .any l.toArray listed).contains i = true ∧
    (hs.contains i = true → Region.ready .any l.toArray listed = [i]) ∧
    (hs.contains i = false → Region.free .any l.toArray listed i = true ∧ i ∉ bars ∧ (past bars listed = true ∨ ∀ b ∈ bars, waits l b i = true)) ∧ okOrdV l hs bars rest (listed.setIfInBounds i true) = true := by
  unfold okOrdV at h
  simp only [Bool.and_eq_true, decide_eq_true_eq] at h
  obtain ⟨⟨⟨h1, h2⟩, h3⟩, h4⟩ := h
  refine ⟨h1, h2, fun h6 => ?_, fun h6 => ?_, h4⟩
  · rw [if_pos h6] at h3
    simpa using h3
  · rw [if_neg (by rw [h6]; exact Bool.noConfusion)] at h3
    simp only [Bool.and_eq_true, Bool.not_eq_true', Bool.or_eq_true, List.all_eq_true] at h3
    refine ⟨h3.1.1, fun hm => ?_, h3.2⟩
    have := h3.1.2
    simp [hm] at this
theorem waits_spec {b : Nat} {ob : Oper} (hb : l.toArray[b]? = some ob) (h : waits l b i = true) : ∃ e ∈ ob.after, Region.binds .any e = true ∧ e.on = i := by
  unfold waits at h
  rw [List.getElem?_toArray] at hb
  rw [hb] at h
  simp only [Array.any_eq_true] at h
  obtain ⟨k, hk, he⟩ := h
  simp only [Bool.and_eq_true, beq_iff_eq] at he
  exact ⟨ob.after[k], Array.getElem_mem hk, he.1, he.2⟩
theorem wpV_light {v : Value} (M : Moves R) (hh : hs.contains i = false) (ho : l[i]? = some o) (hw : Region.wanted o (yielded l.toArray a.tmps) = true) (hQ : ∀ c a w, Q (.panic c) (a.put o.dst v) w → Q (.panic c) a w)
    (hrun : ∀ w', (past bars listed = false → R w w') → (execOp a.eval o).run P w' = .ok (.value v) w') (h : wpV P l hs bars Q R rest (listed.setIfInBounds i true) (a.put o.dst v) w) : wpV P l hs bars Q R (i :: rest) listed a w := by
  intro hn hok
  obtain ⟨h1, h2, -, h4, h5⟩ := okOrdV_cons hok
  obtain ⟨f1, f2, f3⟩ := h4 hh
  have hoa : l.toArray[i]? = some o := by rw [List.getElem?_toArray]; exact ho
  cases hp : past bars listed
  · refine wpAnyB_first (T := R w) hoa (Region.noSelect_spec hn) hQ f2 (.inr ⟨fun _ h => h, fun b hb ob hob => waits_spec hob ?_⟩) _ _ _ _ (.inr hp) (Region.free_spec hoa f1) (by simpa using h2) (.inl ⟨hw, fun w' hR => hrun w' fun _ => hR⟩) (M.refl w) (fun _ => M.refl w) (h hn h5)
    rcases f3 with f3 | f3
    · rw [hp] at f3; cases f3
    · exact f3 b hb
  · exact wpAnyB_first (T := fun _ => True) hoa (Region.noSelect_spec hn) hQ f2 (.inl fun _ => trivial) _ _ _ _ (.inl fun _ => trivial) (Region.free_spec hoa f1) (by simpa using h2) (.inl ⟨hw, fun w' _ => hrun w' fun h => by rw [hp] at h; cases h⟩) trivial (fun _ => M.refl w) (h hn h5)
theorem wpV_skip (M : Moves R) (hh : hs.contains i = false) (ho : l[i]? = some o) (hw : Region.wanted o (yielded l.toArray a.tmps) = false) (hQ : ∀ c a w, Q (.panic c) (a.put o.dst undef) w → Q (.panic c) a w)
    (h : wpV P l hs bars Q R rest (listed.setIfInBounds i true) (a.put o.dst undef) w) : wpV P l hs bars Q R (i :: rest) listed a w := by
  intro hn hok
  obtain ⟨h1, h2, -, h4, h5⟩ := okOrdV_cons hok
  obtain ⟨f1, f2, f3⟩ := h4 hh
  have hoa : l.toArray[i]? = some o := by rw [List.getElem?_toArray]; exact ho
  exact wpAnyB_first (T := fun _ => True) hoa (Region.noSelect_spec hn) hQ f2 (.inl fun _ => trivial) _ _ _ _ (.inl fun _ => trivial) (Region.free_spec hoa f1) (by simpa using h2) (.inr ⟨hw, rfl⟩) trivial (fun _ => M.refl w) (h hn h5)
theorem wpV_heavy (M : Moves R) (hh : hs.contains i = true) (ho : l[i]? = some o) (hw : Region.wanted o (yielded l.toArray a.tmps) = true)
    (h : o.wp P a w (fun a' w' => (past bars (listed.setIfInBounds i true) = false → R w w') ∧ wpV P l hs bars Q R rest (listed.setIfInBounds i true) a' w') Q) : wpV P l hs bars Q R (i :: rest) listed a w := by
  intro hn hok
  obtain ⟨h1, h2, h3, -, h5⟩ := okOrdV_cons hok
  have hr := h3 hh
  refine ⟨fun h0 => absurd (hr ▸ h0) (by simp), fun j hj => ?_⟩
  rw [hr, List.mem_singleton] at hj
  subst hj
  unfold wpOp
  have hi : l.toArray[j]? = some o := by rw [List.getElem?_toArray]; exact ho
  simp only [hi, hw, if_true]
  refine .inl (Oper.wp_mono (fun a' w' h' => ⟨h'.1, ?_⟩) h)
  have hk := h'.2 hn h5
  cases hp : past bars (listed.setIfInBounds j true)
  · exact wpAnyB_sub (fun w2 h2 => M.trans _ _ _ (h'.1 hp) h2) _ _ _ _ hk
  · exact wpAnyB_past _ _ _ _ hp hk
theorem wpV_call {f : FuncId} {vals : Array Value} (M : Moves R) (hh : hs.contains i = true) (ho : l[i]? = some o) (hw : Region.wanted o (yielded l.toArray a.tmps) = true)
    (hrun : ∀ w, (execOp a.eval o).run P w = .ok (.enter f vals) w)
    (h : Calls P f vals w fun e w' => ∃ v, e = .returned v ∧ (past bars (listed.setIfInBounds i true) = false → R w w') ∧ wpV P l hs bars Q R rest (listed.setIfInBounds i true) (a.put o.dst v) w') : wpV P l hs bars Q R (i :: rest) listed a w := by
  refine wpV_heavy M hh ho hw ?_
  unfold Oper.wp
  rw [hrun w]
  refine Calls.mono h ?_
  rintro e w' ⟨v, rfl, h1, h2⟩
  exact ⟨h1, h2⟩
end
def FromX (g N : Nat) (w w' : World) : Prop := w'.os = w.os ∧ w'.tape = w.tape ∧ w'.output = w.output ∧ w.heap.size ≤ w'.heap.size ∧ ∀ b, b < N → b ≠ g → w'.heap[b]? = w.heap[b]?
theorem fromX_moves (g N : Nat) : Moves (FromX g N) := ⟨fun _ => ⟨rfl, rfl, rfl, Nat.le_refl _, fun _ _ _ => rfl⟩, fun _ _ _ h k => ⟨k.1.trans h.1, k.2.1.trans h.2.1, k.2.2.1.trans h.2.2.1, Nat.le_trans h.2.2.2.1 k.2.2.2.1, fun b h1 h2 => (k.2.2.2.2 b h1 h2).trans (h.2.2.2.2 b h1 h2)⟩⟩
theorem fromX_cellsD {g N : Nat} {w w' : World} (h : FromX g N w.drew w') : ∀ b o, b < N → b ≠ g → w'.cell? ⟨b, o, none⟩ = w.cell? ⟨b, o, none⟩ := fun b o hb hne => by
  have := h.2.2.2.2 b hb hne
  simp only [World.cell?, this]
  rfl
theorem fromX_below {g N B : Nat} {w w' : World} (h : Below B w w') (hN : N ≤ B) : FromX g N w w' := ⟨h.os, h.tape, h.output, h.size, fun b hb _ => h.block b (by omega)⟩
theorem fromX_grown {g N : Nat} {w w' : World} (h : w.grownBy w' (some g)) (hN : N ≤ w.heap.size) : FromX g N w w' := ⟨h.os, h.tape, h.output, h.size, fun b hb hne => h.block b (by omega) (fun e => hne (Option.some.inj e))⟩
theorem fromX_row {g N : Nat} {w w' : World} {row : Option Nat} (h : w.grownBy w' row) (hN : N ≤ w.heap.size) (hr : ∀ k, row = some k → N ≤ k) : FromX g N w w' := ⟨h.os, h.tape, h.output, h.size, fun b hb _ => h.block b (by omega) (fun e => by have := hr b e.symm; omega)⟩
theorem below_on {B : Nat} {w0 w1 w2 : World} (h1 : Below B w0 w1) (h2 : Below w1.heap.size w1 w2) (hB : B ≤ w1.heap.size := by omega) : Below B w0 w2 := h1.trans (h2.mono hB)
theorem only_of_below {g : Nat} {w w' : World} (h : Below w.heap.size w w') : Only g w w' := grown_below (grown_refl' w _) h (Nat.le_refl _)
theorem cell_later {w w' : World} {p : Addr} {v : Value} (h : Below w.drew.heap.size w.drew w') (hc : w.cell? p = some v) : w'.cell? p = some v := (Below.cell h (World.block_lt_of_cell? _ _ hc)).trans hc
theorem boxes2 (w : World) (t1 t2 : TypeId) (cs1 cs2 : Array Value) :
    Blk ((w.alloc (.cells cs1 t1)).alloc (.cells cs2 t2)) w.heap.size t1 cs1 ∧ Blk ((w.alloc (.cells cs1 t1)).alloc (.cells cs2 t2)) (w.heap.size + 1) t2 cs2 ∧ Below w.heap.size w ((w.alloc (.cells cs1 t1)).alloc (.cells cs2 t2)) ∧ ((w.alloc (.cells cs1 t1)).alloc (.cells cs2 t2)).heap.size = w.heap.size + 2 := by
  refine ⟨(Blk.new w t1 cs1).alloc _, ?_, ((Below.refl _ w).alloc (Nat.le_refl _) _).alloc (by simp) _, by simp⟩
  have := Blk.new (w.alloc (.cells cs1 t1)) t2 cs2
  simpa using this
theorem boxes3 (w : World) (t1 t2 t3 : TypeId) (cs1 cs2 cs3 : Array Value) :
    Blk (((w.alloc (.cells cs1 t1)).alloc (.cells cs2 t2)).alloc (.cells cs3 t3)) w.heap.size t1 cs1 ∧ Blk (((w.alloc (.cells cs1 t1)).alloc (.cells cs2 t2)).alloc (.cells cs3 t3)) (w.heap.size + 1) t2 cs2 ∧ Blk (((w.alloc (.cells cs1 t1)).alloc (.cells cs2 t2)).alloc (.cells cs3 t3)) (w.heap.size + 1 + 1) t3 cs3 ∧
      Below w.heap.size w (((w.alloc (.cells cs1 t1)).alloc (.cells cs2 t2)).alloc (.cells cs3 t3)) ∧ (((w.alloc (.cells cs1 t1)).alloc (.cells cs2 t2)).alloc (.cells cs3 t3)).heap.size = w.heap.size + 3 := by
  obtain ⟨h1, h2, h3, h4⟩ := boxes2 w t1 t2 cs1 cs2
  refine ⟨h1.alloc _, h2.alloc _, ?_, h3.alloc h3.size _, by simp⟩
  have := Blk.new ((w.alloc (.cells cs1 t1)).alloc (.cells cs2 t2)) t3 cs3
  rwa [h4] at this
theorem set3_blk {w : World} {g : Nat} {t : TypeId} {y0 y1 y2 : Value} (k : Blk w g t #[y0, y1, y2]) (x0 x1 x2 : Value) : Blk (((w.setCell ⟨g, 0, none⟩ x0).setCell ⟨g, 1, none⟩ x1).setCell ⟨g, 2, none⟩ x2) g t #[x0, x1, x2] := by
  have h := (((k.set_ 0 x0).set_ 1 x1).set_ 2 x2)
  simpa using h
theorem set3_grown {w : World} {g : Nat} (x0 x1 x2 : Value) : w.grownBy (((w.setCell ⟨g, 0, none⟩ x0).setCell ⟨g, 1, none⟩ x1).setCell ⟨g, 2, none⟩ x2) (some g) := by
  iterate 3 refine grown_setCell' ?_ (.inl rfl) _
  exact grown_refl' w _
theorem below_of_only {g B : Nat} {a w : World} (h : a.grownBy w (some g)) (hB : B ≤ a.heap.size) (hg : B ≤ g) : Below B a w := below_of_grown h B hB fun _ e => by have := Option.some.inj e; omega
section
variable {P : Program} {ops : Array Oper} {Q : Exit → Act → World → Prop} {R : World → World → Prop}
def PureRun (P : Program) (R : World → World → Prop) (W : World) (ρ : Operand → Value) (o : Oper) (v : Value) : Prop :=
  (∀ w, R W w → (execOp ρ o).run P w = .ok (.value v) w) ∨ ∃ f vals, (∀ w, (execOp ρ o).run P w = .ok (.enter f vals) w) ∧ ∀ w, R W w → Calls P f vals w fun e w' => e = .returned v ∧ R w w'
def PureAt (P : Program) (ops : Array Oper) (R : World → World → Prop) (W : World) (o : Oper) (v : Value) (a : Act) : Prop :=
  (Region.wanted o (yielded ops a.tmps) = true ∧ PureRun P R W a.eval o v) ∨ (Region.wanted o (yielded ops a.tmps) = false ∧ v = undef)
theorem PureRun.later (M : Moves R) {W W' : World} {ρ : Operand → Value} {o : Oper} {v : Value} (h : PureRun P R W ρ o v) (hR : R W W') : PureRun P R W' ρ o v := by
  rcases h with h | ⟨f, vals, h1, h2⟩
  · exact .inl fun w hw => h w (M.trans _ _ _ hR hw)
  · exact .inr ⟨f, vals, h1, fun w hw => h2 w (M.trans _ _ _ hR hw)⟩
theorem PureAt.later (M : Moves R) {W W' : World} {o : Oper} {v : Value} {a : Act} (h : PureAt P ops R W o v a) (hR : R W W') : PureAt P ops R W' o v a :=
  h.imp (fun h => ⟨h.1, h.2.later M hR⟩) id
theorem PureAt.same {W : World} {o : Oper} {v : Value} {a a' : Act} (h : PureAt P ops R W o v a) (he : execOp a'.eval o = execOp a.eval o) (hw : Region.wanted o (yielded ops a'.tmps) = Region.wanted o (yielded ops a.tmps)) : PureAt P ops R W o v a' := by
  unfold PureAt PureRun at *
  rw [he, hw]
  exact h
theorem PureAt.op {W w : World} {i : Nat} {o : Oper} {v : Value} {a : Act} {K : Act → World → Prop} (M : Moves R) (hi : ops[i]? = some o) (h : PureAt P ops R W o v a) (hR : R W w) (hK : ∀ w', R w w' → K (a.put o.dst v) w') : wpOp P ops Q i K a w := by
  unfold wpOp
  simp only [hi]
  rcases h with ⟨hw, h | ⟨f, vals, h1, h2⟩⟩ | ⟨hw, rfl⟩
  · simp only [hw, if_true, Oper.wp, h w hR, Oper.upon]
    exact .inl (hK w (M.refl w))
  · simp only [hw, if_true, Oper.wp, h1 w, Oper.upon]
    refine .inl (Calls.mono (h2 w hR) ?_)
    rintro e w' ⟨rfl, h3⟩
    exact hK w' h3
  · simp only [hw, Bool.false_eq_true, if_false]
    exact hK w (M.refl w)
theorem wpOp_apart {Pi : Act → Prop} {j : Nat} {oi oj : Oper} {v : Value} (hj : ops[j]? = some oj) (hap : oi.apart ops oj = true)
    (hsi : ∀ cs b, oi.op ≠ .select cs b) (hsj : ∀ cs b, oj.op ≠ .select cs b)
    (hPi : ∀ a a', Pi a → execOp a'.eval oi = execOp a.eval oi → Region.wanted oi (yielded ops a'.tmps) = Region.wanted oi (yielded ops a.tmps) → Pi a')
    (hQ : ∀ c a w, Q (.panic c) (a.put oi.dst v) w → Q (.panic c) a w) {K : Act → World → Prop} {a : Act} {w : World}
    (hy : Pi a) (h : wpOp P ops Q j K (a.put oi.dst v) w) : wpOp P ops Q j (fun a' w' => Pi a' ∧ K (a'.put oi.dst v) w') a w := by
  obtain ⟨h1, h2, h3⟩ := Oper.apart_spec hap
  have keep : ∀ u, Pi (a.put oj.dst u) := fun u => hPi a _ hy (execOp_put oi hsi a oj.dst u h3) (wanted_put oi a oj.dst u h3)
  unfold wpOp at *
  simp only [hj] at *
  rw [wanted_put oj a oi.dst v h1] at h
  split
  · rename_i hw
    simp only [hw, if_true] at h
    rcases h with h | ⟨hasks, hlets⟩
    case inr => exact .inr ⟨by unfold Oper.asks at *; rw [execOp_put oj hsj a oi.dst v h1] at hasks; exact hasks, hlets⟩
    refine .inl ?_
    unfold Oper.wp at *
    rw [execOp_put oj hsj a oi.dst v h1] at h
    generalize (execOp a.eval oj).run P w = r at *
    rcases r with ⟨n, w'⟩ | ⟨x, w'⟩
    · cases n <;> simp only [Oper.upon] at h ⊢
      case value u => exact ⟨keep u, by rw [← Act.put_comm a v u h2]; exact h⟩
      case skip => exact ⟨keep _, by rw [← Act.put_comm a v undef h2]; exact h⟩
      case defer d =>
        refine ⟨hPi _ _ (hPi a { a with defers := d :: a.defers } hy rfl rfl) (execOp_put oi hsi _ oj.dst _ h3) (wanted_put oi _ oj.dst _ h3), ?_⟩
        rw [← Act.put_comm _ v undef h2, ← Act.put_defers]
        exact h
      case enter f args =>
        refine Calls.mono h fun e w'' he => ?_
        rcases e with u | c | _
        · exact ⟨keep u, by rw [← Act.put_comm a v u h2]; exact he⟩
        · exact hQ _ _ _ he
        · exact he
      case row row args => exact Rows.mono h fun u w'' he => ⟨keep u, by rw [← Act.put_comm a v u h2]; exact he⟩
    · cases x <;> simp only [Oper.upon] at h ⊢
      case panic u => exact hQ _ _ _ h
  · rename_i hw
    simp only [hw] at h
    exact ⟨keep _, by rw [← Act.put_comm a v undef h2]; exact h⟩
def May (bars : List Nat) (R : World → World → Prop) (listed : Array Bool) (w w1 : World) : Prop := if past bars listed = true then w1 = w else R w w1
theorem May.refl (M : Moves R) (bars : List Nat) (listed : Array Bool) (w : World) : May bars R listed w w := by
  unfold May
  split
  · rfl
  · exact M.refl w
theorem May.of {bars : List Nat} {listed : Array Bool} {w w1 : World} (hp : past bars listed = false) (h : R w w1) : May bars R listed w w1 := by
  unfold May
  rw [if_neg (by rw [hp]; exact Bool.noConfusion)]
  exact h
theorem May.out {bars : List Nat} {listed : Array Bool} {w w1 : World} (hp : past bars listed = false) (h : May bars R listed w w1) : R w w1 := by
  unfold May at h
  rwa [if_neg (by rw [hp]; exact Bool.noConfusion)] at h
theorem May.eq {bars : List Nat} {listed : Array Bool} {w w1 : World} (hp : past bars listed = true) (h : May bars R listed w w1) : w1 = w := by
  unfold May at h
  rwa [if_pos hp] at h
def wpG (P : Program) (ops : Array Oper) (Q : Exit → Act → World → Prop) (bars : List Nat) (R : World → World → Prop) : Nat → Array Bool → Act → World → Prop
  | 0, listed, a, w => Region.ready .any ops listed = [] ∧ ∀ w1, May bars R listed w w1 → Q .normal a w1
  | fuel + 1, listed, a, w => ∀ w1, May bars R listed w w1 → (Region.ready .any ops listed = [] → Q .normal a w1) ∧
      ∀ i ∈ Region.ready .any ops listed, wpOp P ops Q i (fun a' w' => (past bars (listed.setIfInBounds i true) = false → R w1 w') ∧ wpG P ops Q bars R fuel (listed.setIfInBounds i true) a' w') a w1
theorem wpG_later (M : Moves R) {bars : List Nat} : ∀ (fuel : Nat) (listed : Array Bool) (a : Act) (w w2 : World), past bars listed = false → R w w2 → wpG P ops Q bars R fuel listed a w → wpG P ops Q bars R fuel listed a w2
  | 0, _, _, _, _, hp, hR, h => ⟨h.1, fun w1 h1 => h.2 w1 (.of hp (M.trans _ _ _ hR (h1.out hp)))⟩
  | _ + 1, _, _, _, _, hp, hR, h => fun w1 h1 => h w1 (.of hp (M.trans _ _ _ hR (h1.out hp)))
theorem wpAny_of_G (M : Moves R) {bars : List Nat} : ∀ (fuel : Nat) (listed : Array Bool) (a : Act) (w : World), wpG P ops Q bars R fuel listed a w → wpAny P .any ops Q fuel listed a w
  | 0, _, _, w, h => ⟨h.1, h.2 w (.refl M _ _ w)⟩
  | fuel + 1, _, _, w, h => ⟨(h w (.refl M _ _ w)).1, fun i hi => wpOp_mono (fun a' w' h' => wpAny_of_G M fuel _ a' w' h'.2) ((h w (.refl M _ _ w)).2 i hi)⟩
theorem wpG_first (M : Moves R) {bars : List Nat} {i : Nat} {oi : Oper} {v : Value} (hi : ops[i]? = some oi) (hsel : ∀ (j : Nat) (o : Oper) cs b, ops[j]? = some o → o.op ≠ .select cs b)
    (hQ : ∀ c a w, Q (.panic c) (a.put oi.dst v) w → Q (.panic c) a w) (hib : i ∉ bars) (hbar : ∀ b ∈ bars, ∀ ob, ops[b]? = some ob → ∃ e ∈ ob.after, Region.binds .any e = true ∧ e.on = i) :
    ∀ (fuel : Nat) (listed : Array Bool) (a : Act) (w : World), past bars listed = false →
      (∀ j oj, ops[j]? = some oj → j ≠ i → listed.getD j true = false → (∀ e ∈ oj.after, Region.binds .any e = true → e.on ≠ i) → oi.apart ops oj = true) →
      i ∈ Region.ready .any ops listed → PureAt P ops R w oi v a → wpG P ops Q bars R fuel (listed.setIfInBounds i true) (a.put oi.dst v) w → wpG P ops Q bars R (fuel + 1) listed a w := by
  intro fuel
  induction fuel with
  | zero =>
    intro listed a w hp _ hr hy H w1 hw1
    have hp' : past bars (listed.setIfInBounds i true) = false := by rw [past_set hib]; exact hp
    have hR1 := hw1.out hp
    refine ⟨fun h => (by rw [h] at hr; cases hr), fun j hj => ?_⟩
    by_cases hji : j = i
    · subst hji
      exact hy.op M hi hR1 fun w' h' => ⟨fun _ => h', wpG_later M _ _ _ _ _ hp' (M.trans _ _ _ hR1 h') H⟩
    · have := ready_mono hj hji
      rw [H.1] at this
      cases this
  | succ fuel ih =>
    intro listed a w hp hfree hr hy H w1 hw1
    have hp' : past bars (listed.setIfInBounds i true) = false := by rw [past_set hib]; exact hp
    have hR1 := hw1.out hp
    refine ⟨fun h => (by rw [h] at hr; cases hr), fun j hj => ?_⟩
    by_cases hji : j = i
    · subst hji
      exact hy.op M hi hR1 fun w' h' => ⟨fun _ => h', wpG_later M _ _ _ _ _ hp' (M.trans _ _ _ hR1 h') H⟩
    · have h1 := (H w1 (.of hp' hR1)).2 j (ready_mono hj hji)
      obtain ⟨hjun, oj, hoj, hall⟩ := mem_ready.1 hj
      have hnot : ∀ e ∈ oj.after, Region.binds .any e = true → e.on ≠ i := fun e he hb heq => by
        have h1 := hall e he hb
        have h0 := (mem_ready.1 hr).1
        rw [heq] at h1
        rcases Nat.lt_or_ge i listed.size with h' | h'
        · simp [h'] at h0 h1; rw [h0] at h1; cases h1
        · simp [Array.getElem?_eq_none h'] at h1
      have hjb : j ∉ bars := fun hb => by
        obtain ⟨e, he, hbi, hei⟩ := hbar j hb oj hoj
        exact hnot e he hbi hei
      have hpj : past bars (listed.setIfInBounds j true) = false := by rw [past_set hjb]; exact hp
      have hpij : past bars ((listed.setIfInBounds i true).setIfInBounds j true) = false := by rw [past_set hjb]; exact hp'
      have h2 := wpOp_apart (Pi := PureAt P ops R w1 oi v) hoj (hfree j oj hoj hji hjun hnot) (fun cs b => hsel i oi cs b hi) (fun cs b => hsel j oj cs b hoj) (fun _ _ h he hw => h.same he hw) hQ (hy.later M hR1) h1
      have hfree' : ∀ k ok, ops[k]? = some ok → k ≠ i → (listed.setIfInBounds j true).getD k true = false →
          (∀ e ∈ ok.after, Region.binds .any e = true → e.on ≠ i) → oi.apart ops ok = true := fun k ok hk hki hun hno => by
        refine hfree k ok hk hki ?_ hno
        by_cases hjk : j = k
        · subst hjk; exact hjun
        · rw [getD_set_ne true hjk] at hun; exact hun
      refine wpOp_mono (fun a' w' h3 => ?_) h2
      have hRw := h3.2.1 hpij
      refine ⟨fun _ => hRw, ih (listed.setIfInBounds j true) a' w' hpj hfree' (ready_mono hr (Ne.symm hji)) (h3.1.later M hRw) ?_⟩
      rw [Array.setIfInBounds_comm _ _ hji]
      exact h3.2.2
theorem wpG_firstP {bars : List Nat} {i : Nat} {oi : Oper} {v : Value} (hi : ops[i]? = some oi) (hsel : ∀ (j : Nat) (o : Oper) cs b, ops[j]? = some o → o.op ≠ .select cs b)
    (hQ : ∀ c a w, Q (.panic c) (a.put oi.dst v) w → Q (.panic c) a w) :
    ∀ (fuel : Nat) (listed : Array Bool) (a : Act) (w : World), past bars listed = true →
      (∀ j oj, ops[j]? = some oj → j ≠ i → listed.getD j true = false → (∀ e ∈ oj.after, Region.binds .any e = true → e.on ≠ i) → oi.apart ops oj = true) →
      i ∈ Region.ready .any ops listed → YieldsIf P ops (fun _ => True) oi v a → wpG P ops Q bars R fuel (listed.setIfInBounds i true) (a.put oi.dst v) w → wpG P ops Q bars R (fuel + 1) listed a w := by
  intro fuel
  have hno : ∀ {listed : Array Bool} {j : Nat} {w w' : World}, past bars listed = true → past bars (listed.setIfInBounds j true) = false → R w w' := fun h h' => by
    rw [past_mono h] at h'
    cases h'
  induction fuel with
  | zero =>
    intro listed a w hp _ hr hy H w1 hw1
    obtain rfl := hw1.eq hp
    refine ⟨fun h => (by rw [h] at hr; cases hr), fun j hj => ?_⟩
    by_cases hji : j = i
    · subst hji
      exact hy.wpOp hi trivial ⟨hno hp, H⟩
    · have := ready_mono hj hji
      rw [H.1] at this
      cases this
  | succ fuel ih =>
    intro listed a w hp hfree hr hy H w1 hw1
    obtain rfl := hw1.eq hp
    refine ⟨fun h => (by rw [h] at hr; cases hr), fun j hj => ?_⟩
    by_cases hji : j = i
    · subst hji
      exact hy.wpOp hi trivial ⟨hno hp, H⟩
    · have h1 := (H w1 (by unfold May; rw [if_pos (past_mono hp)])).2 j (ready_mono hj hji)
      obtain ⟨hjun, oj, hoj, hall⟩ := mem_ready.1 hj
      have hnot : ∀ e ∈ oj.after, Region.binds .any e = true → e.on ≠ i := fun e he hb heq => by
        have h1 := hall e he hb
        have h0 := (mem_ready.1 hr).1
        rw [heq] at h1
        rcases Nat.lt_or_ge i listed.size with h' | h'
        · simp [h'] at h0 h1; rw [h0] at h1; cases h1
        · simp [Array.getElem?_eq_none h'] at h1
      have h2 := wpOp_putIf hoj (hfree j oj hoj hji hjun hnot) (fun cs b => hsel i oi cs b hi) (fun cs b => hsel j oj cs b hoj) hQ hy h1
      have hfree' : ∀ k ok, ops[k]? = some ok → k ≠ i → (listed.setIfInBounds j true).getD k true = false →
          (∀ e ∈ ok.after, Region.binds .any e = true → e.on ≠ i) → oi.apart ops ok = true := fun k ok hk hki hun hno => by
        refine hfree k ok hk hki ?_ hno
        by_cases hjk : j = k
        · subst hjk; exact hjun
        · rw [getD_set_ne true hjk] at hun; exact hun
      refine wpOp_mono (fun a' w' h3 => ⟨hno hp, ih (listed.setIfInBounds j true) a' w' (past_mono hp) hfree' (ready_mono hr (Ne.symm hji)) h3.1 ?_⟩) h2
      rw [Array.setIfInBounds_comm _ _ hji]
      exact h3.2.2
end
def wpGO (P : Program) (l : List Oper) (hs bars : List Nat) (Q : Exit → Act → World → Prop) (R : World → World → Prop) (order : List Nat) (listed : Array Bool) (a : Act) (w : World) : Prop :=
  Region.noSelect l.toArray = true → okOrdV l hs bars order listed = true → wpG P l.toArray Q bars R order.length listed a w
section
variable {P : Program} {l : List Oper} {hs bars : List Nat} {Q : Exit → Act → World → Prop} {R : World → World → Prop} {rest : List Nat} {i : Nat} {o : Oper} {listed : Array Bool} {a : Act} {w : World}
theorem wpGO_begin {id : Nat} (R : World → World → Prop) (M : Moves R) (hs bars order : List Nat) (hm : P.follows .mixedOrders = true) (hok : (Region.noSelect l.toArray && order.length == l.length && okOrdV l hs bars order (List.replicate l.length false).toArray) = true)
    (h : wpGO P l hs bars Q R order (List.replicate l.length false).toArray a w.drew) : (Code.region id l.toArray true).wp P Q a w := by
  simp only [Bool.and_eq_true, beq_iff_eq] at hok
  refine wp_region_any hm (wpAny_of_G (R := R) (bars := bars) M _ _ _ _ ?_)
  have h2 := h hok.1.1 hok.2
  have e : Array.replicate l.toArray.size false = (List.replicate l.length false).toArray := by simp
  rw [hok.1.2] at h2
  rw [e]
  simpa using h2
theorem wpGO_start (M : Moves R) {order : List Nat} (h : ∀ W, R w W → wpGO P l hs bars Q R order listed a W) : wpGO P l hs bars Q R order listed a w := h w (M.refl w)
theorem wpGO_done (hp : past bars listed = false) (h : ∀ w1, R w w1 → Q .normal a w1) : wpGO P l hs bars Q R [] listed a w := fun _ hok => ⟨by simpa [okOrdV] using hok, fun w1 h1 => h w1 (h1.out hp)⟩
theorem wpGO_doneP (hp : past bars listed = true) (h : Q .normal a w) : wpGO P l hs bars Q R [] listed a w := fun _ hok => ⟨by simpa [okOrdV] using hok, fun w1 h1 => by rw [h1.eq hp]; exact h⟩
theorem wpGO_pure {v : Value} (M : Moves R) (hh : hs.contains i = false) (hp : past bars listed = false) (ho : l[i]? = some o) (hQ : ∀ c a w, Q (.panic c) (a.put o.dst v) w → Q (.panic c) a w)
    (hpu : PureAt P l.toArray R w o v a) (h : wpGO P l hs bars Q R rest (listed.setIfInBounds i true) (a.put o.dst v) w) : wpGO P l hs bars Q R (i :: rest) listed a w := by
  intro hn hok
  obtain ⟨h1, h2, -, h4, h5⟩ := okOrdV_cons hok
  obtain ⟨f1, f2, f3⟩ := h4 hh
  have hoa : l.toArray[i]? = some o := by rw [List.getElem?_toArray]; exact ho
  refine wpG_first M hoa (Region.noSelect_spec hn) hQ f2 (fun b hb ob hob => waits_spec hob ?_) _ _ _ _ hp (Region.free_spec hoa f1) (by simpa using h2) hpu (h hn h5)
  rcases f3 with f3 | f3
  · rw [hp] at f3; cases f3
  · exact f3 b hb
theorem wpGO_light {v : Value} (M : Moves R) (hh : hs.contains i = false) (hp : past bars listed = false) (ho : l[i]? = some o) (hw : Region.wanted o (yielded l.toArray a.tmps) = true) (hQ : ∀ c a w, Q (.panic c) (a.put o.dst v) w → Q (.panic c) a w)
    (hrun : ∀ w', R w w' → (execOp a.eval o).run P w' = .ok (.value v) w') (h : wpGO P l hs bars Q R rest (listed.setIfInBounds i true) (a.put o.dst v) w) : wpGO P l hs bars Q R (i :: rest) listed a w :=
  wpGO_pure M hh hp ho hQ (.inl ⟨hw, .inl hrun⟩) h
theorem wpGO_skip (M : Moves R) (hh : hs.contains i = false) (hp : past bars listed = false) (ho : l[i]? = some o) (hw : Region.wanted o (yielded l.toArray a.tmps) = false) (hQ : ∀ c a w, Q (.panic c) (a.put o.dst undef) w → Q (.panic c) a w)
    (h : wpGO P l hs bars Q R rest (listed.setIfInBounds i true) (a.put o.dst undef) w) : wpGO P l hs bars Q R (i :: rest) listed a w :=
  wpGO_pure M hh hp ho hQ (.inr ⟨hw, rfl⟩) h
theorem wpGO_call {v : Value} {f : FuncId} {vals : Array Value} (M : Moves R) (hh : hs.contains i = false) (hp : past bars listed = false) (ho : l[i]? = some o) (hw : Region.wanted o (yielded l.toArray a.tmps) = true) (hQ : ∀ c a w, Q (.panic c) (a.put o.dst v) w → Q (.panic c) a w)
    (hrun : ∀ w, (execOp a.eval o).run P w = .ok (.enter f vals) w) (hc : ∀ w', R w w' → Calls P f vals w' fun e w'' => e = .returned v ∧ R w' w'')
    (h : wpGO P l hs bars Q R rest (listed.setIfInBounds i true) (a.put o.dst v) w) : wpGO P l hs bars Q R (i :: rest) listed a w :=
  wpGO_pure M hh hp ho hQ (.inl ⟨hw, .inr ⟨f, vals, hrun, hc⟩⟩) h
theorem wpGO_free {v : Value} (hh : hs.contains i = false) (hp : past bars listed = true) (ho : l[i]? = some o) (hw : Region.wanted o (yielded l.toArray a.tmps) = true) (hQ : ∀ c a w, Q (.panic c) (a.put o.dst v) w → Q (.panic c) a w)
    (hrun : ∀ w', (execOp a.eval o).run P w' = .ok (.value v) w') (h : wpGO P l hs bars Q R rest (listed.setIfInBounds i true) (a.put o.dst v) w) : wpGO P l hs bars Q R (i :: rest) listed a w := by
  intro hn hok
  obtain ⟨h1, h2, -, h4, h5⟩ := okOrdV_cons hok
  have hoa : l.toArray[i]? = some o := by rw [List.getElem?_toArray]; exact ho
  exact wpG_firstP hoa (Region.noSelect_spec hn) hQ _ _ _ _ hp (Region.free_spec hoa (h4 hh).1) (by simpa using h2) (.inl ⟨hw, fun w' _ => hrun w'⟩) (h hn h5)
theorem wpGO_heavy (hh : hs.contains i = true) (hp : past bars listed = false) (ho : l[i]? = some o) (hw : Region.wanted o (yielded l.toArray a.tmps) = true)
    (h : ∀ w1, R w w1 → o.wp P a w1 (fun a' w' => (past bars (listed.setIfInBounds i true) = false → R w1 w') ∧ wpGO P l hs bars Q R rest (listed.setIfInBounds i true) a' w') Q) : wpGO P l hs bars Q R (i :: rest) listed a w := by
  intro hn hok
  obtain ⟨h1, -, h3, -, h5⟩ := okOrdV_cons hok
  have hr := h3 hh
  intro w1 hw1
  refine ⟨fun h0 => absurd (hr ▸ h0) (by simp), fun j hj => ?_⟩
  rw [hr, List.mem_singleton] at hj
  subst hj
  unfold wpOp
  have hi : l.toArray[j]? = some o := by rw [List.getElem?_toArray]; exact ho
  simp only [hi, hw, if_true]
  exact .inl (Oper.wp_mono (fun a' w' h' => ⟨h'.1, h'.2 hn h5⟩) (h w1 (hw1.out hp)))
end
theorem lw_at {w : World} {A : Option Addr} {n c : Nat} {l : List Nat} (h : RWd w [.slice A n c] l) : n = l.length ∧ n ≤ c ∧ c ≤ maxLen ∧ (∀ x ∈ l, x < 18446744073709551616) ∧ Rd w 1 A n (U64 l) := by
  obtain ⟨A', n', c', he, h1, h2, h3, h4⟩ := h
  simp at he
  obtain ⟨rfl, rfl, rfl⟩ := he
  have := h3.len1
  rw [len_U64] at this
  exact ⟨this.symm, h1, h2, h4, h3⟩
theorem lw_get {w : World} {A : Option Addr} {l : List Nat} (h : Rd w 1 A l.length (U64 l)) {j : Nat} (hj : j < l.length) : ∃ b q, A = some ⟨b, q, none⟩ ∧ b < w.heap.size ∧ w.cell? ⟨b, q + j, none⟩ = some (.int .u64 ((l.getD j 0 : Nat) : Int)) := by
  obtain ⟨b, q, e, hb, hc⟩ := rd_base h (by omega)
  refine ⟨b, q, e, hb, ?_⟩
  rw [hc j hj, at_U64 hj, List.getD_eq_getElem?_getD, List.getElem?_eq_getElem hj]
  rfl
theorem lw_max {n c : Nat} (h1 : n ≤ c) (h2 : c ≤ maxLen) : (n : Int) ≤ 9223372036854775807 := by
  simp [maxLen] at h2
  omega
theorem lw_getD {l : List Nat} {B : Nat} (h : ∀ x ∈ l, x < B) {k : Nat} (hk : k < l.length) : l.getD k 0 < B := by
  rw [List.getD_eq_getElem?_getD, List.getElem?_eq_getElem hk]
  exact h _ (List.getElem_mem _)
theorem lw_snoc (l : List Nat) (k : Nat) (h : k < l.length) : l.take (k + 1) = l.take k ++ [l.getD k 0] := by
  rw [List.take_succ_eq_append_getElem h, List.getD_eq_getElem?_getD, List.getElem?_eq_getElem h]
  rfl
theorem lw_fold {β : Type} (f : β → Nat → β) (b : β) (l : List Nat) (k : Nat) (h : k < l.length) : (l.take (k + 1)).foldl f b = f ((l.take k).foldl f b) (l.getD k 0) := by
  rw [lw_snoc l k h, List.foldl_append]
  rfl
theorem lw_own {w : World} {base : Nat} {e : TypeId} {A : Option Addr} {c n : Nat} {l : List Nat} (h : w.ownsRow base e 1 (.slice A n c) n (U64 l)) (hl : ∀ x ∈ l, x < 18446744073709551616) : RWd w [.slice A n c] l := by
  obtain ⟨A', c', he, h1, h2, h3, -⟩ := own_form h
  simp at he
  obtain ⟨rfl, rfl⟩ := he
  exact ⟨A, n, c, rfl, h1, h2, h3, hl⟩
theorem lw_grow {W W' : World} {B : Nat} {e : TypeId} {size : Nat} {v : Value} {n : Nat} {xs : List Value} (h : W.ownsRow B e size v n xs) (hg : W.grownBy W' v.ownBlock) (hB : B ≤ W.heap.size) : Below B W W' :=
  below_of_grown hg B hB fun g e => (h.lt g e).1
theorem lw_app {w : World} {B m : Nat} {t : TypeId} {v : Value} {a b c : List Nat} (h : w.ownsRow B t 1 v m (U64 a ++ U64 b)) (e : a ++ b = c) : w.ownsRow B t 1 v m (U64 c) := by
  rw [← e, U64_append]
  exact h
theorem lw_lit {w : World} {g : Nat} {t : TypeId} {l : List Nat} (h : Blk w g t (U64 l).toArray) (hl : ∀ x ∈ l, x < 18446744073709551616) (hm : l.length ≤ maxLen) : RWd w [.slice (some ⟨g, 0, none⟩) l.length l.length] l := by
  refine ⟨_, _, _, rfl, Nat.le_refl _, hm, ⟨by rw [len_U64, Nat.mul_one], fun _ => ⟨_, rfl, fun j u hu => ?_⟩⟩, hl⟩
  rw [add_none, Nat.zero_add, h.cell]
  simpa using hu
def ren25 : Go.Shelf.Ren := ⟨fun | 25 => 149 | n => n, fun | 22 => 22 | n => n, fun n => n⟩
theorem lays25 : Go.Proofs.Lays7.n25 Tryz.prog ren25 := { mixed := by kernel_rfl, f25 := by kernel_rfl, t22 := by kernel_rfl, a22 := fun _ => by kernel_rfl, z22 := fun _ => by kernel_rfl, v22 := fun _ => by kernel_rfl, i22 := by kernel_rfl }
theorem run_add64 (x y : Nat) (w : World) : (callFunc 149 #[.int .u64 (x : Int), .int .u64 (y : Int), .int .u64 0]).run Tryz.prog w =
    .ok (.value (.tuple #[.int .u64 (((x + y) % 18446744073709551616 : Nat) : Int), .int .u64 (((x + y) / 18446744073709551616 : Nat) : Int)])) w :=
  Any7.bits_Add64 lays25 x y 0 (by omega) w
def fv (p : Nat) : Value := .agg #[.int .u64 (p : Int)]
set_option maxRecDepth 100000 in
set_option maxHeartbeats 1000000 in
theorem fValid_any (p : Nat) (w : World) (hp : okP p = true) :
    Calls Tryz.prog 112 #[fv p] w fun e w' => e = .returned (.bool true) ∧ Below w.heap.size w w' := by
  unfold fv
  rcases okP_cases hp with rfl | rfl | rfl | rfl | rfl | rfl | rfl <;>
  · go_enter Tryz.func112, Tryz.ntmps112
    go_wp2_with fail
    go_ret
    exact ⟨rfl, (Below.refl _ _).alloc (Nat.le_refl _) _⟩
set_option maxRecDepth 100000 in
set_option maxHeartbeats 1000000 in
theorem fNumbers_any (p : Nat) (w : World) (hp : okP p = true) :
    Calls Tryz.prog 128 #[fv p] w fun e w' => e = .returned (.tuple #[.int .u64 ((rowOf p).1 : Int), .int .i64 ((rowOf p).2.1 : Int), .int .u64 ((rowOf p).2.2 : Int)]) ∧ Below w.heap.size w w' := by
  unfold fv
  rcases okP_cases hp with rfl | rfl | rfl | rfl | rfl | rfl | rfl <;>
  · go_enter Tryz.func128, Tryz.ntmps128
    go_wp2_with fail
    go_ret3
    exact ⟨rfl, (Below.refl _ _).alloc (Nat.le_refl _) _⟩
set_option maxRecDepth 100000 in
set_option maxHeartbeats 400000 in
theorem fGen_any (p : Nat) (w : World) (hp : okP p = true) :
    Calls Tryz.prog 69 #[fv p] w fun e w' => e = .returned (.int .u64 ((rowOf p).1 : Int)) ∧ Below w.heap.size w w' := by
  have H := Lib.hid (fun w => fNumbers_any p w hp)
  clear hp
  unfold fv at *
  generalize rowOf p = r at *
  obtain ⟨a, b, c⟩ := r
  go_enter Tryz.func69, Tryz.ntmps69
  go_wp2_with (go_at_call 128; refine (H.out _).mono ?_; rintro e w1 ⟨rfl, hb⟩)
  go_ret
  exact ⟨rfl, below_chain ((Below.refl _ _).alloc (Nat.le_refl _) _) hb⟩
set_option maxRecDepth 100000 in
set_option maxHeartbeats 400000 in
theorem fReduced_any (p n : Nat) (w : World) (hp : 0 < p) :
    Calls Tryz.prog 117 #[fv p, .int .u64 n] w fun e w' => e = .returned (.int .u64 ((n % p : Nat) : Int)) ∧ Below w.heap.size w w' := by
  unfold fv
  have p1 : (0 : Int) < (p : Int) := by omega
  have e1 : (n : Int) % (p : Int) = ((n % p : Nat) : Int) := rfl
  have e2 : (n : Int).tmod (p : Int) = ((n % p : Nat) : Int) := rfl
  by_cases h : p ≤ n
  · have g : (p : Int) ≤ (n : Int) := by omega
    revert e1 e2
    generalize n % p = r
    intro e1 e2
    go_enter Tryz.func117, Tryz.ntmps117
    go_wp2_with fail
    go_ret
    exact ⟨rfl, (Below.refl _ _).alloc (Nat.le_refl _) _⟩
  · have g : ¬ ((p : Int) ≤ (n : Int)) := by omega
    have HE := Lib.hid (Nat.mod_eq_of_lt (show n < p by omega))
    clear e1 e2
    rw [HE.out]
    go_enter Tryz.func117, Tryz.ntmps117
    go_wp2_with fail
    go_ret
    exact ⟨rfl, (Below.refl _ _).alloc (Nat.le_refl _) _⟩
set_option maxRecDepth 100000 in
set_option maxHeartbeats 400000 in
theorem fmul_any (p a b : Nat) (w : World) (hp : okP p = true) (ha : a < p) (hb : b < p) :
    Calls Tryz.prog 118 #[fv p, .int .u64 a, .int .u64 b] w fun e w' => e = .returned (.int .u64 ((a * b % p : Nat) : Int)) ∧ Below w.heap.size w w' := by
  obtain ⟨h1, h2⟩ := okP_lt hp
  unfold fv
  have hhi : a * b / 18446744073709551616 < p := by
    have : a * b ≤ p * 18446744073709551615 := Nat.mul_le_mul (by omega) (by omega)
    rw [Nat.div_lt_iff_lt_mul (by omega)]
    omega
  have hlo : a * b % 18446744073709551616 < 18446744073709551616 := Nat.mod_lt _ (by omega)
  have hXY := Nat.div_add_mod (a * b) 18446744073709551616
  rw [Nat.mul_comm 18446744073709551616] at hXY
  have HM := Lib.hid (fun w => mul64_any a b w (by omega) (by omega))
  revert hhi hlo hXY HM
  generalize a * b / 18446744073709551616 = hi
  generalize a * b % 18446744073709551616 = lo
  intro hhi hlo hXY HM
  have HD := Lib.hid (fun w => div64_any hi lo p w hhi hlo h2)
  rw [hXY] at HD
  clear h1 h2 ha hb hhi hlo hXY hp
  revert HD
  generalize a * b / p = q
  generalize a * b % p = r
  intro HD
  go_enter Tryz.func118, Tryz.ntmps118
  go_wp2_with fail
  refine (HM.out _).mono ?_
  rintro e w1 ⟨rfl, rfl⟩
  go_wp2_with fail
  refine (HD.out _).mono ?_
  rintro e w3 ⟨rfl, k, rfl⟩
  go_wp2
  go_ret
  exact ⟨rfl, below_drewN' ((Below.refl _ _).alloc (Nat.le_refl _) _) _⟩
set_option maxRecDepth 100000 in
set_option maxHeartbeats 400000 in
theorem fadd_any (p a b : Nat) (w : World) (hp : okP p = true) (ha : a < p) (hb : b < p) :
    Calls Tryz.prog 119 #[fv p, .int .u64 a, .int .u64 b] w fun e w' => e = .returned (.int .u64 (((a + b) % p : Nat) : Int)) ∧ Below w.heap.size w w' := by
  obtain ⟨h1, h2⟩ := okP_lt hp
  unfold fv
  have hrun := run_add64 a b
  obtain ⟨s, hs⟩ : ∃ s, s = (a + b) % 18446744073709551616 := ⟨_, rfl⟩
  obtain ⟨c, hc⟩ : ∃ c, c = (a + b) / 18446744073709551616 := ⟨_, rfl⟩
  rw [← hs, ← hc] at hrun
  by_cases z : c = 0
  · have d1 : ((c : Int) != 0) = false := by rw [bne_eq_false_iff_eq]; omega
    have d1' : (c : Int) = 0 := by omega
    by_cases hge : p ≤ s
    · have d2 : (p : Int) ≤ (s : Int) := by omega
      have e : IntKind.u64.wrap ((s : Int) - (p : Int)) = (((a + b) % p : Nat) : Int) := by
        rw [wr_sub s p hge (by omega)]
        congr 1
        have e1 : s = a + b := by omega
        rw [e1, Nat.mod_eq_sub_mod (by omega), Nat.mod_eq_of_lt (by omega)]
      generalize (a + b) % p = r at *
      clear hs hc hp z ha hb h1 h2 d1'
      go_enter Tryz.func119, Tryz.ntmps119
      go_wp2_with fail
      go_ret
      exact ⟨rfl, (Below.refl _ _).alloc (Nat.le_refl _) _⟩
    · have d2 : ¬ ((p : Int) ≤ (s : Int)) := by omega
      have e : s = (a + b) % p := by
        have e1 : s = a + b := by omega
        rw [e1, Nat.mod_eq_of_lt (by omega)]
      have HE := Lib.hid e
      clear hs hc hp z ha hb h1 h2 d1' e
      rw [← HE.out]
      go_enter Tryz.func119, Tryz.ntmps119
      go_wp2_with fail
      go_ret
      exact ⟨rfl, (Below.refl _ _).alloc (Nat.le_refl _) _⟩
  · have d1 : ((c : Int) != 0) = true := by rw [bne_iff_ne]; omega
    have e : IntKind.u64.wrap ((s : Int) - (p : Int)) = (((a + b) % p : Nat) : Int) := by
      have e1 : (a + b) % p = a + b - p := by rw [Nat.mod_eq_sub_mod (by omega), Nat.mod_eq_of_lt (by omega)]
      rw [e1, IntKind.wrap_u64]
      omega
    generalize (a + b) % p = r at *
    clear hs hc hp z ha hb h1 h2
    go_enter Tryz.func119, Tryz.ntmps119
    go_wp2_with fail
    go_ret
    exact ⟨rfl, (Below.refl _ _).alloc (Nat.le_refl _) _⟩
set_option maxRecDepth 100000 in
set_option maxHeartbeats 400000 in
theorem fReduce_any (p n : Nat) (w : World) (hp : okP p = true) :
    Calls Tryz.prog 127 #[fv p, .int .u64 n] w fun e w' => e = .returned (.int .u64 ((n % p : Nat) : Int)) ∧ Below w.heap.size w w' := by
  have HV := Lib.hid (fun w => fValid_any p w hp)
  have HR := Lib.hid (fun w => fReduced_any p n w (by have := okP_lt hp; omega))
  clear hp
  unfold fv at *
  generalize n % p = r at *
  have hb0 : Below w.heap.size w (w.alloc (.cells #[.int .u64 (p : Int)] 96)) := (Below.refl _ _).alloc (Nat.le_refl _) _
  have kf := Blk.new w 96 #[.int .u64 (p : Int)]
  go_enter Tryz.func127, Tryz.ntmps127
  go_wp2_with fail
  refine (HV.out _).mono ?_
  rintro e w1 ⟨rfl, hb1⟩
  replace kf := kf.below hb1 kf.lt
  replace hb0 := below_chain hb0 hb1
  clear hb1
  have cf := kf.cell
  go_wp2_with fail
  refine (HR.out _).mono ?_
  rintro e w2 ⟨rfl, hb2⟩
  go_wp2
  go_ret
  exact ⟨rfl, below_chain hb0 hb2⟩
set_option maxRecDepth 100000 in
set_option maxHeartbeats 400000 in
theorem fAdd_any (p a b : Nat) (w : World) (hp : okP p = true) :
    Calls Tryz.prog 111 #[fv p, .int .u64 a, .int .u64 b] w fun e w' => e = .returned (.int .u64 (((a + b) % p : Nat) : Int)) ∧ Below w.heap.size w w' := by
  have hpp : 0 < p := by have := okP_lt hp; omega
  have HV := Lib.hid (fun w => fValid_any p w hp)
  have HA := Lib.hid (fun w => fReduced_any p a w hpp)
  have HB := Lib.hid (fun w => fReduced_any p b w hpp)
  have HS := Lib.hid (fun w => fadd_any p (a % p) (b % p) w hp (Nat.mod_lt _ hpp) (Nat.mod_lt _ hpp))
  rw [← Nat.add_mod] at HS
  clear hp hpp
  unfold fv at *
  generalize (a + b) % p = r at *
  generalize a % p = x at *
  generalize b % p = y at *
  have hb0 : Below w.heap.size w (w.alloc (.cells #[.int .u64 (p : Int)] 96)) := (Below.refl _ _).alloc (Nat.le_refl _) _
  have kf := Blk.new w 96 #[.int .u64 (p : Int)]
  go_enter Tryz.func111, Tryz.ntmps111
  go_wp2_with fail
  refine (HV.out _).mono ?_
  rintro e w1 ⟨rfl, hb1⟩
  replace kf := kf.below hb1 kf.lt
  replace hb0 := below_chain hb0 hb1
  clear hb1
  have cf := kf.cell
  have lf := kf.lt
  go_wp2_with fail
  refine wpGO_begin (Later) (later_moves) [] [] [0, 1, 2, 3, 4, 5, 6, 7, 8] (by kernel_rfl) (by kernel_rfl) ?_
  refine wpGO_start (later_moves) ?_
  intro Wc hacc
  repeat (first | (refine wpGO_skip (later_moves) rfl rfl rfl rfl (fun _ _ _ h => h) ?_ ; simp only [Act.put, List.setIfInBounds_toArray, List.set_cons_zero, List.set_cons_succ]) | (refine wpGO_light (v := ?_) (later_moves) rfl rfl rfl rfl (fun _ _ _ h => h) ?_ ?_ ; rotate_left ; (· (intro w' hR ; (first | have hcells := later_cellsD ((later_moves).trans _ _ _ hacc hR) | skip) ; go_simp ; try with_reducible rfl)) ; simp only [Act.put, List.setIfInBounds_toArray, List.set_cons_zero, List.set_cons_succ]))
  refine wpGO_call (later_moves) rfl rfl rfl rfl (fun _ _ _ h => h) (fun _ => by go_simp <;> rfl) (fun w' hR => HA.out _) ?_
  simp only [Act.put, List.setIfInBounds_toArray, List.set_cons_zero, List.set_cons_succ]
  repeat (first | (refine wpGO_skip (later_moves) rfl rfl rfl rfl (fun _ _ _ h => h) ?_ ; simp only [Act.put, List.setIfInBounds_toArray, List.set_cons_zero, List.set_cons_succ]) | (refine wpGO_light (v := ?_) (later_moves) rfl rfl rfl rfl (fun _ _ _ h => h) ?_ ?_ ; rotate_left ; (· (intro w' hR ; (first | have hcells := later_cellsD ((later_moves).trans _ _ _ hacc hR) | skip) ; go_simp ; try with_reducible rfl)) ; simp only [Act.put, List.setIfInBounds_toArray, List.set_cons_zero, List.set_cons_succ]))
  refine wpGO_call (later_moves) rfl rfl rfl rfl (fun _ _ _ h => h) (fun _ => by go_simp <;> rfl) (fun w' hR => HB.out _) ?_
  simp only [Act.put, List.setIfInBounds_toArray, List.set_cons_zero, List.set_cons_succ]
  repeat (first | (refine wpGO_skip (later_moves) rfl rfl rfl rfl (fun _ _ _ h => h) ?_ ; simp only [Act.put, List.setIfInBounds_toArray, List.set_cons_zero, List.set_cons_succ]) | (refine wpGO_light (v := ?_) (later_moves) rfl rfl rfl rfl (fun _ _ _ h => h) ?_ ?_ ; rotate_left ; (· (intro w' hR ; (first | have hcells := later_cellsD ((later_moves).trans _ _ _ hacc hR) | skip) ; go_simp ; try with_reducible rfl)) ; simp only [Act.put, List.setIfInBounds_toArray, List.set_cons_zero, List.set_cons_succ]))
  refine wpGO_call (later_moves) rfl rfl rfl rfl (fun _ _ _ h => h) (fun _ => by go_simp <;> rfl) (fun w' hR => HS.out _) ?_
  simp only [Act.put, List.setIfInBounds_toArray, List.set_cons_zero, List.set_cons_succ]
  repeat (first | (refine wpGO_skip (later_moves) rfl rfl rfl rfl (fun _ _ _ h => h) ?_ ; simp only [Act.put, List.setIfInBounds_toArray, List.set_cons_zero, List.set_cons_succ]) | (refine wpGO_light (v := ?_) (later_moves) rfl rfl rfl rfl (fun _ _ _ h => h) ?_ ?_ ; rotate_left ; (· (intro w' hR ; (first | have hcells := later_cellsD ((later_moves).trans _ _ _ hacc hR) | skip) ; go_simp ; try with_reducible rfl)) ; simp only [Act.put, List.setIfInBounds_toArray, List.set_cons_zero, List.set_cons_succ]))
  refine wpGO_done rfl ?_
  intro wd hRd
  replace hacc := (later_moves).trans _ _ _ hacc hRd
  clear hRd
  go_wp2
  go_ret
  exact ⟨rfl, below_chain hb0.drew hacc⟩
theorem pow_odd (p r a e n : Nat) (h : r * a ^ e % p = n) (he : e % 2 = 1) : (r * a % p) * (a * a % p) ^ (e / 2) % p = n := by
  have h2 : e = 2 * (e / 2) + 1 := by omega
  rw [← h, Nat.mul_mod, Nat.mod_mod, ← Nat.pow_mod, ← Nat.mul_mod]
  conv => rhs; rw [h2, Nat.pow_succ, Nat.pow_mul, Nat.pow_two, Nat.mul_comm _ a, ← Nat.mul_assoc]
theorem pow_even (p r a e n : Nat) (h : r * a ^ e % p = n) (he : e % 2 = 0) : r * (a * a % p) ^ (e / 2) % p = n := by
  have h2 : e = 2 * (e / 2) := by omega
  rw [← h, Nat.mul_mod, ← Nat.pow_mod, ← Nat.mul_mod]
  conv => rhs; rw [h2, Nat.pow_mul, Nat.pow_two]
set_option maxRecDepth 100000 in
set_option maxHeartbeats 1000000 in
theorem fpow_any (p a e : Nat) (w : World) (hp : okP p = true) (ha : a < p) (he : e < 18446744073709551616) :
    Calls Tryz.prog 148 #[fv p, .int .u64 a, .int .u64 e] w fun e' w' => e' = .returned (.int .u64 ((a ^ e % p : Nat) : Int)) ∧ Below w.heap.size w w' := by
  have hpp : 1 < p := by have := okP_lt hp; omega
  have HM := Lib.hid (fun a b w (h1 : a < p) (h2 : b < p) => fmul_any p a b w hp h1 h2)
  obtain ⟨n, hn⟩ : ∃ n, n = a ^ e % p := ⟨_, rfl⟩
  rw [← hn]
  have HI := Lib.hid (show 1 * a ^ e % p = n by rw [Nat.one_mul, hn])
  have HP := Lib.hid hpp
  clear hn hp hpp
  unfold fv at *
  have hb0 : Below w.heap.size w (w.alloc (.cells #[.int .u64 (p : Int)] 96)) := (Below.refl _ _).alloc (Nat.le_refl _) _
  have kf := Blk.new w 96 #[.int .u64 (p : Int)]
  go_enter Tryz.func148, Tryz.ntmps148
  go_wp2_with fail
  generalize w.alloc _ = w0 at hb0 kf ⊢
  go_loopw [1, 2, 7] (fun x y z wr => ∃ a' e' r : Nat, x = .int .u64 (a' : Int) ∧ y = .int .u64 (e' : Int) ∧ z = .int .u64 (r : Int) ∧ a' < p ∧ r < p ∧ e' < 18446744073709551616 ∧ Hid (r * a' ^ e' % p = n) ∧ Below w0.heap.size w0 wr) (fun _ y _ _ => (intOf y).toNat)
  case atStart => exact ⟨a, e, 1, rfl, rfl, rfl, ha, HP.out, he, HI.out, Below.refl _ _⟩
  case round =>
    obtain ⟨a', e', r, rfl, rfl, rfl, ha', hr', he', H, hbr⟩ := hrel
    have kf' := kf.below hbr kf.lt
    have cf := kf'.cell
    by_cases h0 : e' = 0
    · subst h0
      have HE := Lib.hid (show r = n by have := H.out; rw [Nat.pow_zero, Nat.mul_one, Nat.mod_eq_of_lt hr'] at this; exact this)
      go_wp2
      go_ret
      exact ⟨by rw [HE.out]; rfl, hb0.trans (hbr.mono hb0.size)⟩
    · have g1 : (0 : Int) < (e' : Int) := by omega
      obtain ⟨f, hf⟩ : ∃ f, f = e' / 2 := ⟨_, rfl⟩
      have e1 : (e' : Int) / 2 = (f : Int) := by omega
      have eb : bits BinOp.and IntKind.u64 (e' : Int) 1 = ((e' % 2 : Nat) : Int) := by
        have := bits_and_u64_nat e' 1 he' (by omega)
        rw [Nat.and_one_is_mod] at this
        exact this
      rcases (show e' % 2 = 1 ∨ e' % 2 = 0 by omega) with hodd | hodd
      · rw [hodd] at eb
        have HF := Lib.hid hf
        have HM1 := Lib.hid (fun w => HM.out r a' w hr' ha')
        have HX := pow_odd p r a' e' n H.out hodd
        rw [← hf] at HX
        have hs2 : r * a' % p < p := Nat.mod_lt _ (by have := HP.out; omega)
        generalize r * a' % p = s at *
        have HX0 := fun (hf0 : f = 0) => show s * a' ^ f % p = n by rw [hf0, Nat.pow_zero] at HX ⊢; exact HX
        replace HX := Lib.hid HX
        replace HX0 := Lib.hid HX0
        clear hodd hf
        go_wp2_with fail
        refine (HM1.out _).mono ?_
        rintro e w1 ⟨rfl, hb1⟩
        replace kf' := kf'.below hb1 kf'.lt
        replace hbr := below_on hbr hb1 hbr.size
        clear cf hb1
        have cf := kf'.cell
        by_cases hf0 : f = 0
        · have d3 : decide (0 < f) = false := decide_eq_false (by omega)
          have HF0 := Lib.hid hf0
          clear hf0
          go_wp2_with fail
          go_roundw
          case rel => exact ⟨a', f, s, rfl, rfl, rfl, ha', hs2, by have := HF.out; omega, HX0.out HF0.out, hbr⟩
          case measure => have := HF.out; simp [intOf]; omega
        · have g3 : (0 : Int) < (f : Int) := by omega
          have HQ := Lib.hid (fun w => HM.out a' a' w ha' ha')
          have hq2 : a' * a' % p < p := Nat.mod_lt _ (by have := HP.out; omega)
          have HN2 := Lib.hid HX.out
          generalize a' * a' % p = q at *
          go_wp2_with fail
          refine (HQ.out _).mono ?_
          rintro e w2 ⟨rfl, hb2⟩
          replace hbr := below_on hbr hb2 hbr.size
          go_wp2
          go_roundw
          case rel => exact ⟨q, f, s, rfl, rfl, rfl, hq2, hs2, by have := HF.out; omega, HN2.out, hbr⟩
          case measure => have := HF.out; simp [intOf]; omega
      · rw [hodd] at eb
        have HF := Lib.hid hf
        have HX := pow_even p r a' e' n H.out hodd
        rw [← hf] at HX
        have HX0 := fun (hf0 : f = 0) => show r * a' ^ f % p = n by rw [hf0, Nat.pow_zero] at HX ⊢; exact HX
        replace HX := Lib.hid HX
        replace HX0 := Lib.hid HX0
        clear hodd hf
        by_cases hf0 : f = 0
        · have d3 : decide (0 < f) = false := decide_eq_false (by omega)
          have HF0 := Lib.hid hf0
          clear hf0
          go_wp2_with fail
          go_roundw
          case rel => exact ⟨a', f, r, rfl, rfl, rfl, ha', hr', by have := HF.out; omega, HX0.out HF0.out, hbr⟩
          case measure => have := HF.out; simp [intOf]; omega
        · have g3 : (0 : Int) < (f : Int) := by omega
          have HQ := Lib.hid (fun w => HM.out a' a' w ha' ha')
          have hq2 : a' * a' % p < p := Nat.mod_lt _ (by have := HP.out; omega)
          have HN2 := Lib.hid HX.out
          generalize a' * a' % p = q at *
          go_wp2_with fail
          refine (HQ.out _).mono ?_
          rintro e w2 ⟨rfl, hb2⟩
          replace hbr := below_on hbr hb2 hbr.size
          go_wp2
          go_roundw
          case rel => exact ⟨q, f, r, rfl, rfl, rfl, hq2, hr', by have := HF.out; omega, HN2.out, hbr⟩
          case measure => have := HF.out; simp [intOf]; omega
set_option maxRecDepth 100000 in
set_option maxHeartbeats 400000 in
theorem fMul_any (p a b : Nat) (w : World) (hp : okP p = true) :
    Calls Tryz.prog 56 #[fv p, .int .u64 a, .int .u64 b] w fun e w' => e = .returned (.int .u64 ((a * b % p : Nat) : Int)) ∧ Below w.heap.size w w' := by
  have hpp : 0 < p := by have := okP_lt hp; omega
  have HV := Lib.hid (fun w => fValid_any p w hp)
  have HA := Lib.hid (fun w => fReduced_any p a w hpp)
  have HB := Lib.hid (fun w => fReduced_any p b w hpp)
  have HS := Lib.hid (fun w => fmul_any p (a % p) (b % p) w hp (Nat.mod_lt _ hpp) (Nat.mod_lt _ hpp))
  rw [← Nat.mul_mod] at HS
  clear hp hpp
  generalize a * b % p = r at *
  generalize a % p = x at *
  generalize b % p = y at *
  unfold fv at *
  have hb0 : Below w.heap.size w (w.alloc (.cells #[.int .u64 (p : Int)] 96)) := (Below.refl _ _).alloc (Nat.le_refl _) _
  have kf := Blk.new w 96 #[.int .u64 (p : Int)]
  go_enter Tryz.func56, Tryz.ntmps56
  go_wp2_with fail
  refine (HV.out _).mono ?_
  rintro e' w1 ⟨rfl, hb1⟩
  replace kf := kf.below hb1 kf.lt
  replace hb0 := below_chain hb0 hb1
  clear hb1
  have cf := kf.cell
  have lf := kf.lt
  go_wp2_with fail
  refine wpGO_begin (Later) (later_moves) [] [] [0, 1, 2, 3, 4, 5, 6, 7, 8] (by kernel_rfl) (by kernel_rfl) ?_
  refine wpGO_start (later_moves) ?_
  intro Wc hacc
  repeat (first | (refine wpGO_skip (later_moves) rfl rfl rfl rfl (fun _ _ _ h => h) ?_ ; simp only [Act.put, List.setIfInBounds_toArray, List.set_cons_zero, List.set_cons_succ]) | (refine wpGO_light (v := ?_) (later_moves) rfl rfl rfl rfl (fun _ _ _ h => h) ?_ ?_ ; rotate_left ; (· (intro w' hR ; (first | have hcells := later_cellsD ((later_moves).trans _ _ _ hacc hR) | skip) ; go_simp ; try with_reducible rfl)) ; simp only [Act.put, List.setIfInBounds_toArray, List.set_cons_zero, List.set_cons_succ]))
  refine wpGO_call (later_moves) rfl rfl rfl rfl (fun _ _ _ h => h) (fun _ => by go_simp <;> rfl) (fun w' hR => HA.out _) ?_
  simp only [Act.put, List.setIfInBounds_toArray, List.set_cons_zero, List.set_cons_succ]
  repeat (first | (refine wpGO_skip (later_moves) rfl rfl rfl rfl (fun _ _ _ h => h) ?_ ; simp only [Act.put, List.setIfInBounds_toArray, List.set_cons_zero, List.set_cons_succ]) | (refine wpGO_light (v := ?_) (later_moves) rfl rfl rfl rfl (fun _ _ _ h => h) ?_ ?_ ; rotate_left ; (· (intro w' hR ; (first | have hcells := later_cellsD ((later_moves).trans _ _ _ hacc hR) | skip) ; go_simp ; try with_reducible rfl)) ; simp only [Act.put, List.setIfInBounds_toArray, List.set_cons_zero, List.set_cons_succ]))
  refine wpGO_call (later_moves) rfl rfl rfl rfl (fun _ _ _ h => h) (fun _ => by go_simp <;> rfl) (fun w' hR => HB.out _) ?_
  simp only [Act.put, List.setIfInBounds_toArray, List.set_cons_zero, List.set_cons_succ]
  repeat (first | (refine wpGO_skip (later_moves) rfl rfl rfl rfl (fun _ _ _ h => h) ?_ ; simp only [Act.put, List.setIfInBounds_toArray, List.set_cons_zero, List.set_cons_succ]) | (refine wpGO_light (v := ?_) (later_moves) rfl rfl rfl rfl (fun _ _ _ h => h) ?_ ?_ ; rotate_left ; (· (intro w' hR ; (first | have hcells := later_cellsD ((later_moves).trans _ _ _ hacc hR) | skip) ; go_simp ; try with_reducible rfl)) ; simp only [Act.put, List.setIfInBounds_toArray, List.set_cons_zero, List.set_cons_succ]))
  refine wpGO_call (later_moves) rfl rfl rfl rfl (fun _ _ _ h => h) (fun _ => by go_simp <;> rfl) (fun w' hR => HS.out _) ?_
  simp only [Act.put, List.setIfInBounds_toArray, List.set_cons_zero, List.set_cons_succ]
  repeat (first | (refine wpGO_skip (later_moves) rfl rfl rfl rfl (fun _ _ _ h => h) ?_ ; simp only [Act.put, List.setIfInBounds_toArray, List.set_cons_zero, List.set_cons_succ]) | (refine wpGO_light (v := ?_) (later_moves) rfl rfl rfl rfl (fun _ _ _ h => h) ?_ ?_ ; rotate_left ; (· (intro w' hR ; (first | have hcells := later_cellsD ((later_moves).trans _ _ _ hacc hR) | skip) ; go_simp ; try with_reducible rfl)) ; simp only [Act.put, List.setIfInBounds_toArray, List.set_cons_zero, List.set_cons_succ]))
  refine wpGO_done rfl ?_
  intro wd hRd
  replace hacc := (later_moves).trans _ _ _ hacc hRd
  clear hRd
  go_wp2
  go_ret
  exact ⟨rfl, below_chain hb0.drew hacc⟩
set_option maxRecDepth 100000 in
set_option maxHeartbeats 400000 in
theorem fInv_any (p a : Nat) (w : World) (hp : okP p = true) :
    Calls Tryz.prog 116 #[fv p, .int .u64 a] w fun e w' => e = .returned (.int .u64 ((a ^ (p - 2) % p : Nat) : Int)) ∧ Below w.heap.size w w' := by
  obtain ⟨hp1, hp2⟩ := okP_lt hp
  have HV := Lib.hid (fun w => fValid_any p w hp)
  have HA := Lib.hid (fun w => fReduced_any p a w (by omega))
  have HS := Lib.hid (fun w => fpow_any p (a % p) (p - 2) w hp (Nat.mod_lt _ (by omega)) (by omega))
  have e1 : IntKind.u64.wrap ((p : Int) - 2) = ((p - 2 : Nat) : Int) := wr_sub p 2 (by omega) hp2
  have e2 : (p : Int) - 2 = ((p - 2 : Nat) : Int) := by omega
  have e3 : IntKind.u64.wrap ((p - 2 : Nat) : Int) = ((p - 2 : Nat) : Int) := wr_nat _ (by omega)
  rw [← Nat.pow_mod] at HS
  clear hp hp1 hp2
  generalize a ^ (p - 2) % p = r at *
  generalize a % p = x at *
  generalize p - 2 = m at *
  unfold fv at *
  have hb0 : Below w.heap.size w (w.alloc (.cells #[.int .u64 (p : Int)] 96)) := (Below.refl _ _).alloc (Nat.le_refl _) _
  have kf := Blk.new w 96 #[.int .u64 (p : Int)]
  go_enter Tryz.func116, Tryz.ntmps116
  go_wp2_with fail
  refine (HV.out _).mono ?_
  rintro e' w1 ⟨rfl, hb1⟩
  replace kf := kf.below hb1 kf.lt
  replace hb0 := below_chain hb0 hb1
  clear hb1
  have cf := kf.cell
  have lf := kf.lt
  go_wp2_with fail
  refine wpGO_begin (Later) (later_moves) [] [] [0, 1, 2, 3, 4, 5, 6, 7, 8] (by kernel_rfl) (by kernel_rfl) ?_
  refine wpGO_start (later_moves) ?_
  intro Wc hacc
  repeat (first | (refine wpGO_skip (later_moves) rfl rfl rfl rfl (fun _ _ _ h => h) ?_ ; simp only [Act.put, List.setIfInBounds_toArray, List.set_cons_zero, List.set_cons_succ]) | (refine wpGO_light (v := ?_) (later_moves) rfl rfl rfl rfl (fun _ _ _ h => h) ?_ ?_ ; rotate_left ; (· (intro w' hR ; (first | have hcells := later_cellsD ((later_moves).trans _ _ _ hacc hR) | skip) ; go_simp ; try with_reducible rfl)) ; simp only [Act.put, List.setIfInBounds_toArray, List.set_cons_zero, List.set_cons_succ]))
  refine wpGO_call (later_moves) rfl rfl rfl rfl (fun _ _ _ h => h) (fun _ => by go_simp <;> rfl) (fun w' hR => HA.out _) ?_
  simp only [Act.put, List.setIfInBounds_toArray, List.set_cons_zero, List.set_cons_succ]
  repeat (first | (refine wpGO_skip (later_moves) rfl rfl rfl rfl (fun _ _ _ h => h) ?_ ; simp only [Act.put, List.setIfInBounds_toArray, List.set_cons_zero, List.set_cons_succ]) | (refine wpGO_light (v := ?_) (later_moves) rfl rfl rfl rfl (fun _ _ _ h => h) ?_ ?_ ; rotate_left ; (· (intro w' hR ; (first | have hcells := later_cellsD ((later_moves).trans _ _ _ hacc hR) | skip) ; go_simp ; try with_reducible rfl)) ; simp only [Act.put, List.setIfInBounds_toArray, List.set_cons_zero, List.set_cons_succ]))
  refine wpGO_call (later_moves) rfl rfl rfl rfl (fun _ _ _ h => h) (fun _ => by go_simp <;> rfl) (fun w' hR => HS.out _) ?_
  simp only [Act.put, List.setIfInBounds_toArray, List.set_cons_zero, List.set_cons_succ]
  repeat (first | (refine wpGO_skip (later_moves) rfl rfl rfl rfl (fun _ _ _ h => h) ?_ ; simp only [Act.put, List.setIfInBounds_toArray, List.set_cons_zero, List.set_cons_succ]) | (refine wpGO_light (v := ?_) (later_moves) rfl rfl rfl rfl (fun _ _ _ h => h) ?_ ?_ ; rotate_left ; (· (intro w' hR ; (first | have hcells := later_cellsD ((later_moves).trans _ _ _ hacc hR) | skip) ; go_simp ; try with_reducible rfl)) ; simp only [Act.put, List.setIfInBounds_toArray, List.set_cons_zero, List.set_cons_succ]))
  refine wpGO_done rfl ?_
  intro wd hRd
  replace hacc := (later_moves).trans _ _ _ hacc hRd
  clear hRd
  go_wp2
  go_ret
  exact ⟨rfl, below_chain hb0.drew hacc⟩
def negP (p a : Nat) : Nat := if a % p = 0 then 0 else p - a % p
set_option maxRecDepth 100000 in
set_option maxHeartbeats 400000 in
theorem fNeg_any (p a : Nat) (w : World) (hp : okP p = true) :
    Calls Tryz.prog 85 #[fv p, .int .u64 a] w fun e w' => e = .returned (.int .u64 (negP p a : Int)) ∧ Below w.heap.size w w' := by
  obtain ⟨hp1, hp2⟩ := okP_lt hp
  have HA := Lib.hid (fun w => fReduce_any p a w hp)
  have hx : a % p < p := Nat.mod_lt _ (by omega)
  have HN := Lib.hid (show negP p a = if a % p = 0 then 0 else p - a % p from rfl)
  clear hp
  generalize negP p a = r at *
  generalize a % p = x at *
  by_cases h0 : x = 0
  · have HR := Lib.hid (show r = 0 by rw [HN.out, if_pos h0])
    subst h0
    unfold fv at *
    have hb0 : Below w.heap.size w (w.alloc (.cells #[.int .u64 (p : Int)] 96)) := (Below.refl _ _).alloc (Nat.le_refl _) _
    have kf := Blk.new w 96 #[.int .u64 (p : Int)]
    go_enter Tryz.func85, Tryz.ntmps85
    go_wp2_with fail
    refine (HA.out _).mono ?_
    rintro e' w1 ⟨rfl, hb1⟩
    go_wp2
    go_ret
    exact ⟨by rw [HR.out]; rfl, below_chain hb0 hb1⟩
  · have HR := Lib.hid (show r = p - x by rw [HN.out, if_neg h0])
    have d1 : ((x : Int) == 0) = false := by rw [beq_eq_false_iff_ne]; omega
    have e1 : IntKind.u64.wrap ((p : Int) - (x : Int)) = ((p - x : Nat) : Int) := wr_sub p x (by omega) hp2
    rw [HR.out]
    clear hx hp1 hp2 h0 HR HN
    generalize p - x = z at *
    unfold fv at *
    have hb0 : Below w.heap.size w (w.alloc (.cells #[.int .u64 (p : Int)] 96)) := (Below.refl _ _).alloc (Nat.le_refl _) _
    have kf := Blk.new w 96 #[.int .u64 (p : Int)]
    go_enter Tryz.func85, Tryz.ntmps85
    go_wp2_with fail
    refine (HA.out _).mono ?_
    rintro e' w1 ⟨rfl, hb1⟩
    replace kf := kf.below hb1 kf.lt
    have cf := kf.cell
    go_wp2
    go_ret
    exact ⟨rfl, below_chain hb0 hb1⟩
set_option maxRecDepth 100000 in
set_option maxHeartbeats 400000 in
theorem fSub_any (p a b : Nat) (w : World) (hp : okP p = true) :
    Calls Tryz.prog 57 #[fv p, .int .u64 a, .int .u64 b] w fun e w' => e = .returned (.int .u64 (((a + negP p b) % p : Nat) : Int)) ∧ Below w.heap.size w w' := by
  have HN := Lib.hid (fun w => fNeg_any p b w hp)
  have HS := Lib.hid (fun w => fAdd_any p a (negP p b) w hp)
  clear hp
  generalize (a + negP p b) % p = r at *
  generalize negP p b = x at *
  unfold fv at *
  have hb0 : Below w.heap.size w (w.alloc (.cells #[.int .u64 (p : Int)] 96)) := (Below.refl _ _).alloc (Nat.le_refl _) _
  have kf := Blk.new w 96 #[.int .u64 (p : Int)]
  go_enter Tryz.func57, Tryz.ntmps57
  have cf := kf.cell
  have lf := kf.lt
  go_wp2_with fail
  refine wpGO_begin (Later) (later_moves) [] [] [0, 1, 2, 3, 4, 5, 6] (by kernel_rfl) (by kernel_rfl) ?_
  refine wpGO_start (later_moves) ?_
  intro Wc hacc
  repeat (first | (refine wpGO_skip (later_moves) rfl rfl rfl rfl (fun _ _ _ h => h) ?_ ; simp only [Act.put, List.setIfInBounds_toArray, List.set_cons_zero, List.set_cons_succ]) | (refine wpGO_light (v := ?_) (later_moves) rfl rfl rfl rfl (fun _ _ _ h => h) ?_ ?_ ; rotate_left ; (· (intro w' hR ; (first | have hcells := later_cellsD ((later_moves).trans _ _ _ hacc hR) | skip) ; go_simp ; try with_reducible rfl)) ; simp only [Act.put, List.setIfInBounds_toArray, List.set_cons_zero, List.set_cons_succ]))
  refine wpGO_call (later_moves) rfl rfl rfl rfl (fun _ _ _ h => h) (fun _ => by go_simp <;> rfl) (fun w' hR => HN.out _) ?_
  simp only [Act.put, List.setIfInBounds_toArray, List.set_cons_zero, List.set_cons_succ]
  repeat (first | (refine wpGO_skip (later_moves) rfl rfl rfl rfl (fun _ _ _ h => h) ?_ ; simp only [Act.put, List.setIfInBounds_toArray, List.set_cons_zero, List.set_cons_succ]) | (refine wpGO_light (v := ?_) (later_moves) rfl rfl rfl rfl (fun _ _ _ h => h) ?_ ?_ ; rotate_left ; (· (intro w' hR ; (first | have hcells := later_cellsD ((later_moves).trans _ _ _ hacc hR) | skip) ; go_simp ; try with_reducible rfl)) ; simp only [Act.put, List.setIfInBounds_toArray, List.set_cons_zero, List.set_cons_succ]))
  refine wpGO_call (later_moves) rfl rfl rfl rfl (fun _ _ _ h => h) (fun _ => by go_simp <;> rfl) (fun w' hR => HS.out _) ?_
  simp only [Act.put, List.setIfInBounds_toArray, List.set_cons_zero, List.set_cons_succ]
  repeat (first | (refine wpGO_skip (later_moves) rfl rfl rfl rfl (fun _ _ _ h => h) ?_ ; simp only [Act.put, List.setIfInBounds_toArray, List.set_cons_zero, List.set_cons_succ]) | (refine wpGO_light (v := ?_) (later_moves) rfl rfl rfl rfl (fun _ _ _ h => h) ?_ ?_ ; rotate_left ; (· (intro w' hR ; (first | have hcells := later_cellsD ((later_moves).trans _ _ _ hacc hR) | skip) ; go_simp ; try with_reducible rfl)) ; simp only [Act.put, List.setIfInBounds_toArray, List.set_cons_zero, List.set_cons_succ]))
  refine wpGO_done rfl ?_
  intro wd hRd
  replace hacc := (later_moves).trans _ _ _ hacc hRd
  clear hRd
  go_wp2
  go_ret
  exact ⟨rfl, below_chain hb0.drew hacc⟩
theorem same_take {l1 l2 : List Nat} {k : Nat} (h : l1.take k = l2.take k) (h1 : k < l1.length) (h2 : k < l2.length) (e : l1.getD k 0 = l2.getD k 0) : l1.take (k + 1) = l2.take (k + 1) := by
  rw [lw_snoc l1 k h1, lw_snoc l2 k h2, h, e]
theorem same_not {l1 l2 : List Nat} {k : Nat} (e : l1.getD k 0 ≠ l2.getD k 0) : decide (l1 = l2) = false := decide_eq_false fun h => e (by rw [h])
set_option maxRecDepth 100000 in
set_option maxHeartbeats 1000000 in
theorem rSame01_any (A1 A2 : Option Addr) (n1 c1 n2 c2 : Nat) (l1 l2 : List Nat) (w : World) (h1 : RWd w [.slice A1 n1 c1] l1) (h2 : RWd w [.slice A2 n2 c2] l2) :
    Calls Tryz.prog 14 #[.slice A1 n1 c1, .slice A2 n2 c2] w fun e w' => e = .returned (.bool (decide (l1 = l2))) ∧ Below w.heap.size w w' := by
  obtain ⟨rfl, a1, a2, a3, r1⟩ := lw_at h1
  obtain ⟨rfl, b1, b2, b3, r2⟩ := lw_at h2
  have gm := lw_max a1 a2
  have gm2 := lw_max b1 b2
  clear h1 h2 a1 a2 b1 b2 a3 b3
  by_cases hn : l1.length = l2.length
  rotate_left
  · have t1 : ((l1.length : Int) != (l2.length : Int)) = true := by rw [bne_iff_ne]; omega
    have t2 : ((l1.length : Int) == (l2.length : Int)) = false := by rw [beq_eq_false_iff_ne]; omega
    have HF := Lib.hid (show decide (l1 = l2) = false from decide_eq_false fun h => hn (by rw [h]))
    rw [HF.out]
    generalize l1.length = m1 at *
    generalize l2.length = m2 at *
    clear r1 r2 hn
    go_enter Tryz.func14, Tryz.ntmps14
    go_wp2
    go_ret
    exact ⟨rfl, Below.refl _ _⟩
  have t1 : ((l1.length : Int) != (l2.length : Int)) = false := by rw [bne_eq_false_iff_eq]; omega
  have t2 : ((l1.length : Int) == (l2.length : Int)) = true := by rw [beq_iff_eq]; omega
  obtain ⟨n, hn1⟩ : ∃ n, l1.length = n := ⟨_, rfl⟩
  have hn2 : l2.length = n := by omega
  rw [hn1] at r1
  rw [hn2] at r2
  rw [hn1, hn2] at t1 t2
  rw [hn1] at gm
  rw [hn1, hn2]
  obtain ⟨ans, ha⟩ : ∃ ans, ans = decide (l1 = l2) := ⟨_, rfl⟩
  rw [← ha]
  have HA := Lib.hid ha
  have H1 := Lib.hid hn1
  have H2 := Lib.hid hn2
  clear hn hn1 hn2 gm2 ha
  go_enter Tryz.func14, Tryz.ntmps14
  go_wp2_with fail
  go_loopw [5] (fun y wr => ∃ i : Nat, i ≤ n ∧ y = .int .i64 (i : Int) ∧ Hid (l1.take i = l2.take i) ∧ Below w.heap.size w wr) (fun y _ => n - (intOf y).toNat)
  case atStart => exact ⟨0, Nat.zero_le _, rfl, rfl, Below.refl _ _⟩
  case round =>
    obtain ⟨i, hi, rfl, HT, hbr⟩ := hrel
    by_cases hlt : i < n
    · have g1 : (0 : Int) ≤ (i : Int) := by omega
      have g2 : (i : Int) < (n : Int) := by omega
      have q1 := r1.below hbr
      have q2 := r2.below hbr
      rw [← H1.out] at q1
      rw [← H2.out] at q2
      obtain ⟨x1, y1, rfl, v1, d1⟩ := lw_get q1 (j := i) (by rw [H1.out]; exact hlt)
      obtain ⟨x2, y2, rfl, v2, d2⟩ := lw_get q2 (j := i) (by rw [H2.out]; exact hlt)
      clear q1 q2
      by_cases he : l1.getD i 0 = l2.getD i 0
      · have HT2 := Lib.hid (same_take HT.out (by rw [H1.out]; exact hlt) (by rw [H2.out]; exact hlt) he)
        rw [← he] at d2
        generalize l1.getD i 0 = z at *
        have u1 : ((z : Int) != (z : Int)) = false := by rw [bne_eq_false_iff_eq]
        have u2 : ((z : Int) == (z : Int)) = true := by rw [beq_iff_eq]
        clear he HT
        go_wp2_with fail
        refine wpGO_begin (Later) (later_moves) [] [] [0, 1, 2, 3, 4, 5, 6, 7, 8] (by kernel_rfl) (by kernel_rfl) ?_
        refine wpGO_start (later_moves) ?_
        intro Wc hacc
        repeat (first | (refine wpGO_skip (later_moves) rfl rfl rfl rfl (fun _ _ _ h => h) ?_ ; simp only [Act.put, List.setIfInBounds_toArray, List.set_cons_zero, List.set_cons_succ]) | (refine wpGO_light (v := ?_) (later_moves) rfl rfl rfl rfl (fun _ _ _ h => h) ?_ ?_ ; rotate_left ; (· (intro w' hR ; (first | have hcells := later_cellsD ((later_moves).trans _ _ _ hacc hR) | skip) ; go_simp ; try with_reducible rfl)) ; simp only [Act.put, List.setIfInBounds_toArray, List.set_cons_zero, List.set_cons_succ]))
        refine wpGO_done rfl ?_
        intro wd hRd
        replace hacc := (later_moves).trans _ _ _ hacc hRd
        clear hRd
        go_wp2
        replace hbr := below_chain hbr.drew hacc
        go_roundw
        case rel => exact ⟨i + 1, by omega, by go_num, HT2.out, hbr⟩
        case measure => simp [intOf]; omega
      · have HF := Lib.hid (HA.out.trans (same_not he))
        generalize l1.getD i 0 = z1 at *
        generalize l2.getD i 0 = z2 at *
        have u1 : ((z1 : Int) != (z2 : Int)) = true := by rw [bne_iff_ne]; omega
        have u2 : ((z1 : Int) == (z2 : Int)) = false := by rw [beq_eq_false_iff_ne]; omega
        clear he HT
        go_wp2_with fail
        refine wpGO_begin (Later) (later_moves) [] [] [0, 1, 2, 3, 4, 5, 6, 7, 8] (by kernel_rfl) (by kernel_rfl) ?_
        refine wpGO_start (later_moves) ?_
        intro Wc hacc
        repeat (first | (refine wpGO_skip (later_moves) rfl rfl rfl rfl (fun _ _ _ h => h) ?_ ; simp only [Act.put, List.setIfInBounds_toArray, List.set_cons_zero, List.set_cons_succ]) | (refine wpGO_light (v := ?_) (later_moves) rfl rfl rfl rfl (fun _ _ _ h => h) ?_ ?_ ; rotate_left ; (· (intro w' hR ; (first | have hcells := later_cellsD ((later_moves).trans _ _ _ hacc hR) | skip) ; go_simp ; try with_reducible rfl)) ; simp only [Act.put, List.setIfInBounds_toArray, List.set_cons_zero, List.set_cons_succ]))
        refine wpGO_done rfl ?_
        intro wd hRd
        replace hacc := (later_moves).trans _ _ _ hacc hRd
        clear hRd
        go_wp2
        go_ret
        exact ⟨by rw [HF.out]; rfl, below_chain hbr.drew hacc⟩
    · obtain rfl : i = n := by omega
      have HF := Lib.hid (HA.out.trans (decide_eq_true (by have := HT.out; rwa [← H1.out, List.take_length, H1.out, ← H2.out, List.take_length] at this)))
      go_wp2
      go_ret
      exact ⟨by rw [HF.out]; rfl, hbr⟩
def RRows (w : World) (cs : List Value) (l : List (List Nat)) : Prop := RSl 1 RWd w cs l
theorem kept_RRows : Kept RRows := kept_RSl kept_RWd
theorem rows_at {w : World} {A : Option Addr} {n c : Nat} {l : List (List Nat)} (h : RRows w [.slice A n c] l) : l.length = n ∧ n ≤ c ∧ c ≤ maxLen ∧ RdL w 1 RWd A l := by
  obtain ⟨A', n', c', he, h1, h2, h3, h4⟩ := h
  simp at he
  obtain ⟨rfl, rfl, rfl⟩ := he
  exact ⟨h1, h2, h3, h4⟩
theorem spot_none {w : World} {A : Option Addr} {l : List (List Nat)} (h : RdL w 1 RWd A l) (hl : 0 < l.length) : ∃ b q, A = some ⟨b, q, none⟩ := by
  obtain ⟨a, cs, e, h1, hc, -⟩ := h 0 hl
  have h0 := hc 0 (by omega)
  rw [List.getElem?_eq_getElem (by omega)] at h0
  have hs := World.cell?_spot h0
  obtain ⟨b, q, s⟩ := a
  cases s with
  | none => exact ⟨b, q, e⟩
  | some x => simp [Addr.add] at hs
theorem rows_get {w : World} {A : Option Addr} {l : List (List Nat)} (h : RdL w 1 RWd A l) {i : Nat} (hi : i < l.length) :
    ∃ b q A1 n1 c1, A = some ⟨b, q, none⟩ ∧ b < w.heap.size ∧ w.cell? ⟨b, q + i, none⟩ = some (.slice A1 n1 c1) ∧ RWd w [.slice A1 n1 c1] l[i] := by
  obtain ⟨a, cs, e, hl, hc, hr⟩ := h i hi
  have hr' := hr
  obtain ⟨A1, n1, c1, rfl, -⟩ := hr'
  obtain ⟨b, q, ha⟩ := spot_none h (by omega)
  rw [e] at ha
  obtain rfl := Option.some.inj ha
  have h0 := hc 0 (by omega)
  have e0 : (⟨b, q, none⟩ : Addr).add (i * 1 + 0) = ⟨b, q + i, none⟩ := by rw [add_none]; simp
  rw [e0] at h0
  exact ⟨b, q, A1, n1, c1, e, World.block_lt_of_cell? _ _ h0, h0, hr⟩
def RWx (N : Nat) (gb : Option Nat) (w : World) (v : Value) (l : List Nat) : Prop := ∀ u : World, (∀ b, N ≤ b → b < w.heap.size → some b ≠ gb → u.heap[b]? = w.heap[b]?) → RWd u [v] l
def GRows (N : Nat) (w : World) (v : Value) (cs : List Value) (l : List (List Nat)) : Prop := cs.length = l.length ∧ ∀ (i : Nat) (h1 : i < cs.length) (h2 : i < l.length), RWx N v.ownBlock w cs[i] l[i]
theorem grows_nil (N : Nat) (w : World) (v : Value) : GRows N w v [] [] := ⟨rfl, fun i h => by simp at h⟩
theorem rwx_keep {N : Nat} {gb : Option Nat} {w w' : World} {v : Value} {l : List Nat} (h : RWx N gb w v l) (hs : w.heap.size ≤ w'.heap.size) (hw : ∀ b, N ≤ b → b < w.heap.size → some b ≠ gb → w'.heap[b]? = w.heap[b]?) : RWx N gb w' v l :=
  fun u hu => h u fun b h1 h2 h3 => (hu b h1 (by omega) h3).trans (hw b h1 h2 h3)
theorem grows_keep {N : Nat} {w w' : World} {v : Value} {cs : List Value} {l : List (List Nat)} (h : GRows N w v cs l) (hs : w.heap.size ≤ w'.heap.size) (hw : ∀ b, N ≤ b → b < w.heap.size → some b ≠ v.ownBlock → w'.heap[b]? = w.heap[b]?) : GRows N w' v cs l :=
  ⟨h.1, fun i h1 h2 => rwx_keep (h.2 i h1 h2) hs hw⟩
theorem grows_below {N : Nat} {w w' : World} {v : Value} {cs : List Value} {l : List (List Nat)} (h : GRows N w v cs l) (hb : Below w.heap.size w w') : GRows N w' v cs l :=
  grows_keep h hb.size fun b _ h2 _ => hb.block b h2
theorem grows_only {N g : Nat} {w w' : World} {v : Value} {cs : List Value} {l : List (List Nat)} (h : GRows N w v cs l) (hg : w.grownBy w' (some g)) (hN : g < N) : GRows N w' v cs l :=
  grows_keep h hg.size fun b h1 h2 _ => hg.block b h2 fun e => by have := Option.some.inj e; omega
theorem rwx_own {N base n : Nat} {w : World} {gb : Option Nat} {e : TypeId} {x : Value} {l : List Nat} (h : w.ownsRow base e 1 x n (U64 l)) (hl : ∀ y ∈ l, y < 18446744073709551616) (hN : N ≤ base) (hg : ∀ q, gb = some q → q < base) : RWx N gb w x l := by
  intro u hu
  have ho := own_agree' h fun b h1 h2 => hu b (by omega) h2 fun e => by have := hg b e.symm; omega
  obtain ⟨A, c, rfl, -⟩ := own_form ho
  exact lw_own ho hl
where
  own_agree' {w u : World} {base : Nat} {e : TypeId} {size : Nat} {v : Value} {n : Nat} {xs : List Value} (h : w.ownsRow base e size v n xs) (ha : ∀ b, base ≤ b → b < w.heap.size → u.heap[b]? = w.heap[b]?) : u.ownsRow base e size v n xs := by
    obtain ⟨h1, h2⟩ := h
    refine ⟨h1, ?_⟩
    rcases h2 with h2 | ⟨g, cap, cur, hv, hgb, hh, r⟩
    · exact Or.inl h2
    · exact Or.inr ⟨g, cap, cur, hv, hgb, by rw [ha g hgb (Array.getElem?_eq_some_iff.1 hh).1]; exact hh, r⟩
theorem grows_app {N : Nat} {w w' : World} {v v' x : Value} {cs : List Value} {l : List (List Nat)} {y : List Nat} (h : GRows N w v cs l) (hx : RWx N v.ownBlock w x y) (hg : w.grownBy w' v.ownBlock) (hv : v'.ownBlock = v.ownBlock ∨ v'.ownBlock = some w.heap.size) : GRows N w' v' (cs ++ [x]) (l ++ [y]) := by
  have key : ∀ {z : Value} {m : List Nat}, RWx N v.ownBlock w z m → RWx N v'.ownBlock w' z m := fun {z m} hz u hu => by
    refine hz u fun b h1 h2 h3 => ?_
    refine (hu b h1 (by have := hg.size; omega) ?_).trans (hg.block b h2 (fun e => h3 e))
    rcases hv with e | e
    · rw [e]; exact h3
    · rw [e]; intro e2; have := Option.some.inj e2; omega
  refine ⟨by simp [h.1], fun i h1 h2 => ?_⟩
  by_cases hi : i < cs.length
  · rw [List.getElem_append_left hi, List.getElem_append_left (by have := h.1; omega)]
    exact key (h.2 i hi _)
  · have e1 : i = cs.length := by simp at h1; omega
    have e2 : (cs ++ [x])[i] = x := by subst e1; simp
    have e3 : (l ++ [y])[i] = y := by
      have : i = l.length := by rw [e1, h.1]
      subst this
      simp
    rw [e2, e3]
    exact key hx
theorem grows_done {N base n : Nat} {w : World} {e : TypeId} {v : Value} {cs : List Value} {l : List (List Nat)} (h : GRows N w v cs l) (ho : w.ownsRow base e 1 v n cs) : RRows w [v] l := by
  obtain ⟨A, c, rfl, h1, h2, hr, -⟩ := own_form ho
  have hn : cs.length = n := by have := ho.1; omega
  refine ⟨A, n, c, rfl, by rw [← h.1, hn], h1, h2, fun i hi => ?_⟩
  have hi2 : i < cs.length := by rw [h.1]; exact hi
  obtain ⟨b, q, hA, hb, hc⟩ := rd_base hr (by omega)
  refine ⟨_, [cs[i]], hA, rfl, fun j hj => ?_, h.2 i hi2 hi w fun _ _ _ _ => rfl⟩
  obtain rfl : j = 0 := by omega
  rw [add_none, show q + (i * 1 + 0) = q + i by omega, hc i (by omega), List.getElem?_eq_getElem hi2]
  rfl
def FRows (N : Nat) (gb : Option Nat) (w : World) (cs : Array Value) (i : Nat) (f : Nat → List Nat) : Prop := ∀ k, k < i → ∃ v, cs[k]? = some v ∧ RWx N gb w v (f k)
theorem frows_done {N n g : Nat} {gb : Option Nat} {w : World} {t : TypeId} {cs : Array Value} {f : Nat → List Nat} (h : FRows N gb w cs n f) (hk : Blk w g t cs) (hm : n ≤ maxLen) : RRows w [.slice (some ⟨g, 0, none⟩) n n] ((List.range n).map f) := by
  refine ⟨_, n, n, rfl, by simp, Nat.le_refl _, hm, fun i hi => ?_⟩
  have hi2 : i < n := by simpa using hi
  obtain ⟨v, h1, h2⟩ := h i hi2
  refine ⟨_, [v], rfl, rfl, fun j hj => ?_, by simpa using h2 w fun _ _ _ _ => rfl⟩
  obtain rfl : j = 0 := by omega
  rw [add_none, show 0 + (i * 1 + 0) = i by omega, hk.cell, h1]
  rfl
theorem rwx_blk {N g : Nat} {gb : Option Nat} {w : World} {t : TypeId} {l : List Nat} (h : Blk w g t (U64 l).toArray) (hl : ∀ x ∈ l, x < 18446744073709551616) (hm : l.length ≤ maxLen) (hN : N ≤ g) (hg : some g ≠ gb) : RWx N gb w (.slice (some ⟨g, 0, none⟩) l.length l.length) l :=
  fun _ hu => lw_lit (t := t) ((hu g hN h.lt hg).trans h) hl hm
theorem rwx_blkn {N g n : Nat} {gb : Option Nat} {w : World} {t : TypeId} {l : List Nat} (h : Blk w g t (U64 l).toArray) (hn : l.length = n) (hl : ∀ x ∈ l, x < 18446744073709551616) (hm : n ≤ maxLen) (hN : N ≤ g) (hg : some g ≠ gb) : RWx N gb w (.slice (some ⟨g, 0, none⟩) n n) l := by
  subst hn
  exact rwx_blk h hl hm hN hg
def fillC (n : Nat) (f : Nat → Nat) : Array Value := ((List.range n).map fun k => Value.int .u64 (f k : Int)).toArray
def putF (f : Nat → Nat) (k v : Nat) : Nat → Nat := fun i => if i = k then v else f i
theorem fill_get {n k : Nat} (f : Nat → Nat) (h : k < n) : (fillC n f)[k]? = some (.int .u64 (f k : Int)) := by simp [fillC, h]
theorem fill_same {n : Nat} {f g : Nat → Nat} (h : ∀ i, i < n → f i = g i) : fillC n f = fillC n g := by
  unfold fillC
  congr 1
  exact List.map_congr_left fun i hi => by rw [h i (List.mem_range.1 hi)]
theorem fill_set {n : Nat} (f : Nat → Nat) (k v : Nat) : (fillC n f).setIfInBounds k (.int .u64 (v : Int)) = fillC n (putF f k v) := by
  apply Array.ext
  · simp [fillC]
  · intro i h1 h2
    simp [fillC] at h1 h2
    rw [Array.getElem_setIfInBounds (by simpa [fillC] using h1)]
    simp only [fillC, putF]
    split
    · subst_vars; simp
    · rename_i hne
      simp [show ¬ i = k from fun e => hne e.symm]
theorem fill_U64 (n : Nat) (f : Nat → Nat) : fillC n f = (U64 ((List.range n).map f)).toArray := by simp [fillC, U64]
theorem fill_rwd {w : World} {g n : Nat} {t : TypeId} {f : Nat → Nat} (h : Blk w g t (fillC n f)) (hf : ∀ i, i < n → f i < 18446744073709551616) (hn : n ≤ maxLen) : RWd w [.slice (some ⟨g, 0, none⟩) n n] ((List.range n).map f) := by
  rw [fill_U64] at h
  have := lw_lit h (fun x hx => by
    obtain ⟨i, hi, rfl⟩ := List.mem_map.1 hx
    exact hf i (List.mem_range.1 hi)) (by simpa using hn)
  simpa using this
theorem mk_n {P : Program} {t e : TypeId} {size bytes : Nat} {z : Value} (E : Elem P t e size bytes z) (n : Nat) (hb : bytes * n ≤ 281474976710656) (hn : (n : Int) ≤ 9223372036854775807) (w : World) :
    (Instr.makeSlice t (.int .i64 (n : Int)) (.int .i64 (n : Int))).run P w = .ok (.slice (some ⟨w.heap.size, 0, none⟩) n n) (w.alloc (.cells (madeCells z.cells (n * size)) e)) := by
  obtain ⟨ht, ⟨i, hi, hz, hs, hby⟩, hzs, hsz⟩ := E
  have := run_make (P := P) w t e i z ht hi hz .i64 .i64 (n : Int) (n : Int) (by omega) (Int.le_refl _) (by rw [hby, ← Int.natCast_mul]; exact Int.ofNat_le.2 hb) hn
  rw [Int.toNat_natCast, hs] at this
  exact this
theorem made_words (n : Nat) : madeCells (Value.int .u64 0).cells (n * 1) = fillC n fun _ => 0 := by
  apply Array.toList_inj.1
  rw [show (Value.int .u64 0).cells = #[.int .u64 0] from rfl, toList_madeCells_one]
  exact List.ext_getElem (by simp [fillC]) fun i h1 h2 => by simp [fillC]
theorem info_w : (Tryz.prog.info? 22).map (fun i => (i.zero, i.size, i.bytes)) = some (some (.int .u64 0), 1, 8) := by kernel_rfl
theorem el_w : Elem Tryz.prog 28 22 1 8 (.int .u64 0) := by
  obtain ⟨i0, hi, hz0, hz1, hz2⟩ := info_parts info_w
  exact ⟨Tryz.underlying28, ⟨i0, hi, hz0, hz1, hz2⟩, rfl, by omega⟩
theorem mk_words (n : Nat) (hn : n ≤ 1000000) (w : World) :
    (Instr.makeSlice 28 (.int .i64 (n : Int)) (.int .i64 (n : Int))).run Tryz.prog w = .ok (.slice (some ⟨w.heap.size, 0, none⟩) n n) (w.alloc (.cells (fillC n fun _ => 0) 22)) := by
  have := mk_n (P := Tryz.prog) el_w n (by omega) (by omega) w
  rw [made_words] at this
  exact this
structure LenOk (p n : Nat) : Prop where
  pos : 1 ≤ n
  le : n ≤ 4096
  two : ∃ j, n = 2 ^ j
  dvd : (p - 1) % n = 0
def rootP (p n : Nat) : Nat := (rowOf p).1 ^ ((p - 1) / n) % p
theorem and_pow : ∀ j : Fin 13, bits .and .i64 ((2 ^ j.val : Nat) : Int) (((2 ^ j.val : Nat) : Int) - 1) = 0 := by decide +kernel
theorem pow_le {j : Nat} (h : 2 ^ j ≤ 4096) : j < 13 := by
  rcases Nat.lt_or_ge j 13 with h1 | h1
  · exact h1
  · have : 2 ^ 13 ≤ 2 ^ j := Nat.pow_le_pow_right (by omega) h1
    omega
theorem pow_of_and : ∀ b : Fin 257, 1 ≤ b.val → b.val &&& (b.val - 1) = 0 → ∃ j : Fin 9, b.val = 2 ^ j.val := by decide +kernel
theorem gen_lt {p : Nat} (h : okP p = true) : (rowOf p).1 < p := by
  rcases okP_cases h with rfl | rfl | rfl | rfl | rfl | rfl | rfl <;> decide
set_option maxRecDepth 100000 in
set_option maxHeartbeats 1000000 in
theorem fRoot_any (p n : Nat) (w : World) (hp : okP p = true) (hn : LenOk p n) :
    Calls Tryz.prog 147 #[fv p, .int .i64 (n : Int)] w fun e w' => e = .returned (.tuple #[.int .u64 (rootP p n : Int), .bool true]) ∧ Below w.heap.size w w' := by
  obtain ⟨h1, h2, h3, h4⟩ := hn
  obtain ⟨hp1, hp2⟩ := okP_lt hp
  have HV := Lib.hid (fun w => fValid_any p w hp)
  have HG := Lib.hid (fun w => fGen_any p w hp)
  have hand : bits .and .i64 (n : Int) ((n : Int) - 1) = 0 := by
    obtain ⟨j, hj⟩ := h3
    have := and_pow ⟨j, pow_le (by omega)⟩
    simp only at this
    rw [← hj] at this
    exact this
  obtain ⟨pm, hpm⟩ : ∃ pm, pm = p - 1 := ⟨_, rfl⟩
  obtain ⟨m, hm⟩ : ∃ m, m = pm / n := ⟨_, rfl⟩
  have HP := Lib.hid (fun w => fpow_any p (rowOf p).1 m w hp (gen_lt hp) (by rw [hm]; exact Nat.lt_of_le_of_lt (Nat.div_le_self _ _) (by omega)))
  have hR : rootP p n = (rowOf p).1 ^ m % p := by unfold rootP; rw [hm, hpm]
  rw [hR]
  have ep : IntKind.u64.wrap ((p : Int) - 1) = (pm : Int) := by rw [hpm]; exact wr_sub p 1 (by omega) hp2
  have ep2 : (p : Int) - 1 = (pm : Int) := by omega
  have ep3 : IntKind.u64.wrap (pm : Int) = (pm : Int) := wr_nat _ (by omega)
  have en : IntKind.u64.wrap (n : Int) = (n : Int) := wr_nat _ (by omega)
  have em : IntKind.u64.wrap (m : Int) = (m : Int) := wr_nat _ (by rw [hm]; exact Nat.lt_of_le_of_lt (Nat.div_le_self _ _) (by omega))
  have r1 : (pm : Int) % (n : Int) = 0 := by rw [hpm]; omega
  have r2 : (pm : Int).tmod (n : Int) = 0 := by rw [Int.tmod_eq_emod_of_nonneg (by omega)]; exact r1
  have r3 : (pm : Int) / (n : Int) = (m : Int) := by rw [hm]; rfl
  have r4 : (pm : Int).tdiv (n : Int) = (m : Int) := by rw [hm]; rfl
  have n0 : ¬ ((n : Int) = 0) := by omega
  have n5 : ¬ (n = 0) := by omega
  have n1 : (1 : Int) ≤ (n : Int) := by omega
  have n2 : ((n : Int) == 0) = false := by rw [beq_eq_false_iff_ne]; exact n0
  have n3 : (0 : Int) < (n : Int) := by omega
  have n4 : (n : Int) ≤ 4096 := by omega
  clear hR hm hp1 hp2 h1 h2 h3 h4 hp
  generalize (rowOf p).1 = gn at *
  generalize gn ^ m % p = r at *
  unfold fv at *
  have hb0 : Below w.heap.size w (w.alloc (.cells #[.int .u64 (p : Int)] 96)) := (Below.refl _ _).alloc (Nat.le_refl _) _
  have kf := Blk.new w 96 #[.int .u64 (p : Int)]
  clear hpm
  go_enter Tryz.func147, Tryz.ntmps147
  go_wp2_with fail
  refine (HV.out _).mono ?_
  rintro e' w1 ⟨rfl, hb1⟩
  replace kf := kf.below hb1 kf.lt
  replace hb0 := below_chain hb0 hb1
  clear hb1
  have cf := kf.cell
  have lf := kf.lt
  go_wp2_with fail
  refine wpGO_begin (Later) (later_moves) [] [] [0, 1, 2, 3, 4, 5, 6, 7, 8, 9, 10, 11] (by kernel_rfl) (by kernel_rfl) ?_
  refine wpGO_start (later_moves) ?_
  intro Wc hacc
  repeat (first | (refine wpGO_skip (later_moves) rfl rfl rfl rfl (fun _ _ _ h => h) ?_ ; simp only [Act.put, List.setIfInBounds_toArray, List.set_cons_zero, List.set_cons_succ]) | (refine wpGO_light (v := ?_) (later_moves) rfl rfl rfl rfl (fun _ _ _ h => h) ?_ ?_ ; rotate_left ; (· (intro w' hR ; (first | have hcells := later_cellsD ((later_moves).trans _ _ _ hacc hR) | skip) ; go_simp ; try with_reducible rfl)) ; simp only [Act.put, List.setIfInBounds_toArray, List.set_cons_zero, List.set_cons_succ]))
  refine wpGO_call (later_moves) rfl rfl rfl rfl (fun _ _ _ h => h) (fun _ => by go_simp <;> rfl) (fun w' hR => HG.out _) ?_
  simp only [Act.put, List.setIfInBounds_toArray, List.set_cons_zero, List.set_cons_succ]
  repeat (first | (refine wpGO_skip (later_moves) rfl rfl rfl rfl (fun _ _ _ h => h) ?_ ; simp only [Act.put, List.setIfInBounds_toArray, List.set_cons_zero, List.set_cons_succ]) | (refine wpGO_light (v := ?_) (later_moves) rfl rfl rfl rfl (fun _ _ _ h => h) ?_ ?_ ; rotate_left ; (· (intro w' hR ; (first | have hcells := later_cellsD ((later_moves).trans _ _ _ hacc hR) | skip) ; go_simp ; try with_reducible rfl)) ; simp only [Act.put, List.setIfInBounds_toArray, List.set_cons_zero, List.set_cons_succ]))
  refine wpGO_call (later_moves) rfl rfl rfl rfl (fun _ _ _ h => h) (fun _ => by go_simp <;> rfl) (fun w' hR => HP.out _) ?_
  simp only [Act.put, List.setIfInBounds_toArray, List.set_cons_zero, List.set_cons_succ]
  repeat (first | (refine wpGO_skip (later_moves) rfl rfl rfl rfl (fun _ _ _ h => h) ?_ ; simp only [Act.put, List.setIfInBounds_toArray, List.set_cons_zero, List.set_cons_succ]) | (refine wpGO_light (v := ?_) (later_moves) rfl rfl rfl rfl (fun _ _ _ h => h) ?_ ?_ ; rotate_left ; (· (intro w' hR ; (first | have hcells := later_cellsD ((later_moves).trans _ _ _ hacc hR) | skip) ; go_simp ; try with_reducible rfl)) ; simp only [Act.put, List.setIfInBounds_toArray, List.set_cons_zero, List.set_cons_succ]))
  refine wpGO_done rfl ?_
  intro wd hRd
  replace hacc := (later_moves).trans _ _ _ hacc hRd
  clear hRd
  go_wp2
  go_ret2
  exact ⟨rfl, below_chain hb0.drew hacc⟩
set_option maxRecDepth 100000 in
set_option maxHeartbeats 1000000 in
theorem tRoot_any (p n : Nat) (w : World) (hp : okP p = true) (hn : LenOk p n) :
    Calls Tryz.prog 113 #[fv p, .int .i64 (n : Int)] w fun e w' => e = .returned (.tuple #[.int .u64 (rootP p n : Int), .bool true]) ∧ Below w.heap.size w w' := by
  have HR := Lib.hid (fun w => fRoot_any p n w hp hn)
  have d1 : decide ((n : Int) < 1) = false := decide_eq_false (by have := hn.pos; omega)
  have d2 : decide ((4096 : Int) < (n : Int)) = false := decide_eq_false (by have := hn.le; omega)
  clear hn hp
  generalize rootP p n = r at *
  unfold fv at *
  have hb0 : Below w.heap.size w (w.alloc (.cells #[.int .u64 (p : Int)] 96)) := (Below.refl _ _).alloc (Nat.le_refl _) _
  go_enter Tryz.func113, Tryz.ntmps113
  go_wp2_with fail
  refine (HR.out _).mono ?_
  rintro e' w1 ⟨rfl, hb1⟩
  go_wp2
  go_ret2
  exact ⟨rfl, below_chain hb0 hb1⟩
def upTo (F G : Nat → Nat) (i : Nat) : Nat → Nat := fun k => if k < i then F k else G k
theorem upTo_zero (n : Nat) (F G : Nat → Nat) : fillC n (upTo F G 0) = fillC n G := fill_same fun k _ => by simp [upTo]
theorem upTo_all (n : Nat) (F G : Nat → Nat) : fillC n (upTo F G n) = fillC n F := fill_same fun k hk => by simp [upTo, hk]
theorem upTo_get {n i : Nat} (F G : Nat → Nat) (h : i < n) : (fillC n (upTo F G i))[i]? = some (.int .u64 (G i : Int)) := by rw [fill_get _ h]; simp [upTo]
theorem upTo_set {n i v : Nat} {F G : Nat → Nat} (h : v = F i) : (fillC n (upTo F G i)).setIfInBounds i (.int .u64 (v : Int)) = fillC n (upTo F G (i + 1)) := by
  rw [fill_set]
  refine fill_same fun k _ => ?_
  simp only [putF, upTo]
  by_cases e : k = i
  · subst e; rw [if_pos rfl, if_pos (by omega), h]
  · rw [if_neg e]
    by_cases h2 : k < i
    · rw [if_pos h2, if_pos (by omega)]
    · rw [if_neg h2, if_neg (by omega)]
theorem set_only {w : World} (g i : Nat) (v : Value) : w.grownBy (w.setCell ⟨g, i, none⟩ v) (some g) := grown_setCell' (p := ⟨g, i, none⟩) (grown_refl' w _) (.inl rfl) _
def redP (p : Nat) (l : List Nat) (i : Nat) : Nat := l.getD i 0 % p
set_option maxRecDepth 100000 in
set_option maxHeartbeats 1000000 in
theorem tReduced_any (p : Nat) (A : Option Addr) (n c : Nat) (l : List Nat) (w : World) (hp : okP p = true) (hl : RWd w [.slice A n c] l) (hn : n ≤ 100000) :
    Calls Tryz.prog 114 #[fv p, .slice A n c] w fun e w' => ∃ g, e = .returned (.slice (some ⟨g, 0, none⟩) n n) ∧ w.heap.size ≤ g ∧ Blk w' g 22 (fillC n (redP p l)) ∧ Below w.heap.size w w' := by
  have HR := Lib.hid (fun x w => fReduce_any p x w hp)
  obtain ⟨rfl, h1, h2, hlt, hrd⟩ := lw_at hl
  clear hl
  have hrd := hrd
  unfold fv at *
  have mk := mk_words l.length (by omega)
  have gm : (l.length : Int) ≤ 100000 := by omega
  go_enter Tryz.func114, Tryz.ntmps114
  go_wp2_with fail
  obtain ⟨kf, ka, hb0, -⟩ := boxes2 w 96 22 #[.int .u64 (p : Int)] (fillC l.length fun _ => 0)
  have hg1 : w.heap.size < w.heap.size + 1 := by omega
  clear mk
  generalize (w.alloc _).alloc _ = w2 at kf ka hb0 ⊢
  generalize w.heap.size + 1 = ga at ka hg1 ⊢
  rw [← upTo_zero _ (redP p l)] at ka
  go_wp2_with fail
  go_loopw [6, 7, 13] (fun _ _ y wr => ∃ i : Nat, i ≤ l.length ∧ y = .int .i64 (i : Int) ∧ Blk wr w.heap.size 96 #[.int .u64 (p : Int)] ∧ Blk wr ga 22 (fillC l.length (upTo (redP p l) (fun _ => 0) i)) ∧ Below w.heap.size w wr) (fun _ _ y _ => l.length - (intOf y).toNat)
  case atStart => exact ⟨0, Nat.zero_le _, rfl, kf, ka, hb0⟩
  case round =>
    clear kf ka hb0
    obtain ⟨i, hi, rfl, kf, ka, hb0⟩ := hrel
    by_cases hlt' : i < l.length
    · have g1 : (0 : Int) ≤ (i : Int) := by omega
      have g2 : (i : Int) < (l.length : Int) := by omega
      obtain ⟨b, q, rfl, hbl, hc⟩ := lw_get (hrd.below hb0) hlt'
      obtain ⟨x, hx⟩ : ∃ x, x = l.getD i 0 := ⟨_, rfl⟩
      obtain ⟨z, hz⟩ : ∃ z, z = x % p := ⟨_, rfl⟩
      have HZ := Lib.hid (show z = redP p l i by rw [hz, hx]; rfl)
      have HX := Lib.hid (fun w => by have := HR.out x w; rw [← hz] at this; exact this)
      rw [← hx] at hc
      clear hx hz
      have cf := kf.cell
      go_wp2_with fail
      refine (HX.out _).mono ?_
      rintro e w5 ⟨rfl, hb5⟩
      have hba : ga < wr.heap.size := ka.lt
      replace kf := kf.below hb5 kf.lt
      replace ka := ka.below hb5 ka.lt
      replace hb0 := below_chain hb0 hb5
      clear hc cf hb5
      have fa := ka.frozen
      have ca := ka.cell i
      rw [upTo_get _ _ hlt'] at ca
      go_wp2_with fail
      have hg := set_only (w := w5) ga i (.int .u64 (z : Int))
      replace kf := kf.grown hg (fun e => by have := Option.some.inj e; first | omega | (exact absurd this (by assumption)) | (exact absurd this.symm (by assumption)))
      replace hb0 := hb0.trans (below_of_only hg hb0.size (by omega))
      replace ka := ka.set_ i (.int .u64 (z : Int))
      rw [upTo_set HZ.out] at ka
      clear hg fa ca
      go_roundw
      case rel => exact ⟨i + 1, by omega, by go_num, kf, ka, hb0⟩
      case measure => simp [intOf]; omega
    · obtain rfl : i = l.length := by omega
      rw [upTo_all] at ka
      go_wp2
      go_ret
      exact ⟨ga, rfl, by omega, ka, hb0⟩
abbrev Fact := (Nat → Value) → (Nat → Prop) → World → Prop
structure Step where
  i : Nat
  deps : List Nat
  eat : List Nat
def dstOf (l : List Oper) (j : Nat) : Option Tmp := (l[j]?).bind (·.dst)
def putAll (l : List Oper) (vs : Nat → Value) (a : Act) (js : List Nat) : Act := js.foldl (fun a j => a.put (dstOf l j) (vs j)) a
def pick : List (Nat × Fact) → Nat → Fact
  | [], _ => fun _ _ _ => True
  | (k, p) :: r, j => if Nat.beq k j then p else pick r j
theorem putAll_comm (l : List Oper) (vs : Nat → Value) (d : Option Tmp) (v : Value) : ∀ (js : List Nat) (a : Act), (∀ j ∈ js, ∀ t, d = some t → dstOf l j ≠ some t) → putAll l vs (a.put d v) js = (putAll l vs a js).put d v
  | [], _, _ => rfl
  | j :: js, a, h => by
    show putAll l vs ((a.put d v).put (dstOf l j) (vs j)) js = _
    rw [Act.put_comm a v (vs j) (h j (by simp))]
    exact putAll_comm l vs d v js _ fun k hk => h k (by simp [hk])
theorem putAll_congr (l : List Oper) {vs us : Nat → Value} : ∀ (js : List Nat) (a : Act), (∀ j ∈ js, vs j = us j) → putAll l vs a js = putAll l us a js
  | [], _, _ => rfl
  | j :: js, a, h => by
    show putAll l vs (a.put (dstOf l j) (vs j)) js = putAll l us (a.put (dstOf l j) (us j)) js
    rw [h j (by simp)]
    exact putAll_congr l js _ fun k hk => h k (by simp [hk])
def upd (vs : Nat → Value) (i : Nat) (v : Value) : Nat → Value := fun j => if j = i then v else vs j
theorem upd_self (vs : Nat → Value) (i : Nat) (v : Value) : upd vs i v i = v := if_pos rfl
theorem upd_ne {vs : Nat → Value} {i j : Nat} {v : Value} (h : j ≠ i) : upd vs i v j = vs j := if_neg h
theorem putAll_ins (l : List Oper) (vs : Nat → Value) (i : Nat) (v : Value) (f f' : Nat → Bool) : ∀ (js : List Nat) (a : Act), js.Nodup → i ∈ js → f i = false → f' i = true → (∀ j ∈ js, j ≠ i → f' j = f j) →
    (∀ j ∈ js, j ≠ i → ∀ t, dstOf l i = some t → dstOf l j ≠ some t) → putAll l (upd vs i v) a (js.filter f') = (putAll l vs a (js.filter f)).put (dstOf l i) v
  | [], _, _, h, _, _, _, _ => by cases h
  | j :: js, a, hn, hi, h0, h1, h2, h3 => by
    obtain ⟨hj, hn'⟩ := List.nodup_cons.1 hn
    by_cases e : j = i
    · subst e
      have hf : js.filter f' = js.filter f := List.filter_congr fun k hk => h2 k (by simp [hk]) (by rintro rfl; exact hj hk)
      rw [List.filter_cons_of_pos h1, List.filter_cons_of_neg (by rw [h0]; exact Bool.false_ne_true), hf]
      show putAll l (upd vs j v) (a.put (dstOf l j) (upd vs j v j)) _ = _
      rw [upd_self, putAll_comm _ _ _ _ _ _ (fun k hk => h3 k (by simp [(List.mem_filter.1 hk).1]) (by rintro rfl; exact hj (List.mem_filter.1 hk).1))]
      rw [putAll_congr l _ a fun k hk => upd_ne (by rintro rfl; exact hj (List.mem_filter.1 hk).1)]
    · have hi' : i ∈ js := by
        rcases List.mem_cons.1 hi with h | h
        · exact absurd h.symm e
        · exact h
      have key := fun a => putAll_ins l vs i v f f' js a hn' hi' h0 h1 (fun k hk => h2 k (by simp [hk])) fun k hk => h3 k (by simp [hk])
      have e2 := h2 j (by simp) e
      cases hfj : f j
      · rw [List.filter_cons_of_neg (by rw [e2, hfj]; exact Bool.false_ne_true), List.filter_cons_of_neg (by rw [hfj]; exact Bool.false_ne_true)]
        exact key a
      · rw [List.filter_cons_of_pos (by rw [e2, hfj]), List.filter_cons_of_pos hfj]
        show putAll l (upd vs i v) (a.put (dstOf l j) (upd vs i v j)) _ = (putAll l vs (a.put (dstOf l j) (vs j)) _).put _ _
        rw [upd_ne e]
        exact key _
theorem putAll_miss (l : List Oper) (vs : Nat → Value) (t : Tmp) : ∀ (js : List Nat) (a : Act), (∀ j ∈ js, dstOf l j ≠ some t) → (putAll l vs a js).eval (.tmp t) = a.eval (.tmp t)
  | [], _, _ => rfl
  | j :: js, a, h => by
    show (putAll l vs (a.put (dstOf l j) (vs j)) js).eval _ = _
    rw [putAll_miss l vs t js _ fun k hk => h k (by simp [hk])]
    exact Act.eval_put fun d hd he => h j (by simp) (by rw [hd]; injection he with he; rw [he])
theorem putAll_hit (l : List Oper) (vs : Nat → Value) (t : Tmp) (j : Nat) (hd : dstOf l j = some t) : ∀ (js : List Nat) (a : Act), j ∈ js → (∀ k ∈ js, k ≠ j → dstOf l k ≠ some t) → (putAll l vs a js).eval (.tmp t) = if t < a.tmps.size then vs j else undef
  | [], _, h, _ => by cases h
  | k :: js, a, h, hne => by
    show (putAll l vs (a.put (dstOf l k) (vs k)) js).eval _ = _
    by_cases hj : j ∈ js
    · rw [putAll_hit l vs t j hd js _ hj fun m hm => hne m (by simp [hm])]
      have e : (a.put (dstOf l k) (vs k)).tmps.size = a.tmps.size := by cases h : dstOf l k <;> simp [Act.put]
      rw [e]
    · obtain rfl : j = k := by
        rcases List.mem_cons.1 h with h | h
        · exact h
        · exact absurd h hj
      rw [putAll_miss l vs t js _ fun m hm => hne m (by simp [hm]) fun e => hj (e ▸ hm), hd]
      by_cases ht : t < a.tmps.size <;> simp [Act.eval, Act.put, ht]
def Eff (B : Nat) (X : Nat → Prop) (w w' : World) : Prop := w'.os = w.os ∧ w'.tape = w.tape ∧ w'.output = w.output ∧ w.heap.size ≤ w'.heap.size ∧ ∀ b, b < B → ¬ X b → w'.heap[b]? = w.heap[b]?
theorem eff_trans {B : Nat} {X : Nat → Prop} {a b c : World} (h : Eff B X a b) (k : Eff B X b c) : Eff B X a c :=
  ⟨k.1.trans h.1, k.2.1.trans h.2.1, k.2.2.1.trans h.2.2.1, Nat.le_trans h.2.2.2.1 k.2.2.2.1, fun g h1 h2 => (k.2.2.2.2 g h1 h2).trans (h.2.2.2.2 g h1 h2)⟩
theorem eff_refl (B : Nat) (X : Nat → Prop) (w : World) : Eff B X w w := ⟨rfl, rfl, rfl, Nat.le_refl _, fun _ _ _ => rfl⟩
def Own (B : Nat) (X : Nat → Prop) (own : Nat → Nat) (w : World) (i : Nat) : Nat → Prop := fun b => b < w.heap.size ∧ (B ≤ b ∨ X b) ∧ own b = i
def Does (P : Program) (x : Sem Next) (w : World) (K : Value → World → Prop) : Prop :=
  (∃ v w', x.run P w = .ok (.value v) w' ∧ K v w') ∨ (∃ w', x.run P w = .ok .skip w' ∧ K undef w') ∨ (∃ f vals, x.run P w = .ok (.enter f vals) w ∧ Calls P f vals w fun e w' => ∃ v, e = .returned v ∧ K v w')
theorem does_wp {P : Program} {o : Oper} {a : Act} {w : World} {K : Act → World → Prop} {Q : Exit → Act → World → Prop} (h : Does P (execOp a.eval o) w fun v w' => K (a.put o.dst v) w') : o.wp P a w K Q := by
  unfold Oper.wp
  rcases h with ⟨v, w', h1, h2⟩ | ⟨w', h1, h2⟩ | ⟨f, vals, h1, h2⟩
  · rw [h1]; exact h2
  · rw [h1]; exact h2
  · rw [h1]
    refine Calls.mono h2 ?_
    rintro e w' ⟨v, rfl, h3⟩
    exact h3
theorem does_val {P : Program} {x : Sem Next} {w w' : World} {K : Value → World → Prop} {v : Value} (h : x.run P w = .ok (.value v) w') (hK : K v w') : Does P x w K := .inl ⟨v, w', h, hK⟩
theorem does_call {P : Program} {x : Sem Next} {w : World} {K : Value → World → Prop} {f : FuncId} {vals : Array Value} {post : Ending → World → Prop} (h : x.run P w = .ok (.enter f vals) w) (hc : Calls P f vals w post) (hK : ∀ e w', post e w' → ∃ v, e = .returned v ∧ K v w') : Does P x w K := .inr (.inr ⟨f, vals, h, hc.mono hK⟩)
def edge (l : List Oper) (i j : Nat) : Bool := match l[i]? with | some o => (o.after.any fun e => Region.binds .any e && e.on == j) | none => false
def operTmps (l : List Oper) (i : Nat) : List Tmp := match l[i]? with | some o => (o.op.operands.toList.filterMap fun | .tmp t => some t | _ => none) | none => []
def okTopo (l : List Oper) (L0 : Array Bool) : List Nat → List Nat → Bool
  | _, [] => true
  | pre, i :: rest => (match l[i]? with | some o => o.guard.isNone && !L0.getD i true && o.after.all (fun e => !Region.binds .any e || L0.getD e.on false || (pre.contains e.on && decide (e.on < l.length))) | none => true) && okTopo l L0 (i :: pre) rest
def okOwn (l : List Oper) (T : List Step) (L0 : Array Bool) : Bool :=
  L0.size == l.length && (T.map (·.i)).Nodup && okTopo l L0 [] (T.map (·.i)) &&
  (T.all fun s => T.all fun t => s.i == t.i || (dstOf l s.i).isNone || dstOf l s.i != dstOf l t.i) &&
  (T.all fun s => (operTmps l s.i).all fun x => T.all fun t => dstOf l t.i != some x || s.deps.contains t.i) &&
  (T.all fun s => s.deps.all fun j => (T.any fun t => t.i == j) && (decide (l.length ≤ j) || edge l s.i j)) &&
  (T.all fun s => s.eat.all fun j => s.deps.contains j && T.all fun t => t.i == s.i || !t.deps.contains j) &&
  ((List.range l.length).all fun i => L0.getD i true || (T.any fun t => t.i == i) || ((T.all fun t => decide (l.length ≤ t.i) || edge l i t.i) || (List.range l.length).any fun j => !L0.getD j true && !(T.any fun t => t.i == j) && edge l i j))
def Task (P : Program) (l : List Oper) (p : Nat → Fact) (B : Nat) (X : Nat → Prop) (w0 : World) (a0 : Act) (s : Step) : Prop :=
  ∀ (o : Oper), l[s.i]? = some o → ∀ (w : World) (vs : Nat → Value) (F : Nat → Nat → Prop), Eff B X w0 w → (∀ j ∈ s.deps, p j vs (F j) w ∧ ∀ b, F j b → b < w.heap.size ∧ (B ≤ b ∨ X b)) → (∀ j k b, j ≠ k → F j b → ¬ F k b) →
    Does P (execOp (putAll l vs a0 (s.deps.filter (· < l.length))).eval o) w fun v w' => Eff B X w w' ∧ (∀ b, b < w.heap.size → (∀ j ∈ s.eat, ¬ F j b) → w'.heap[b]? = w.heap[b]?) ∧ p s.i (upd vs s.i v) (fun b => (w.heap.size ≤ b ∧ b < w'.heap.size) ∨ ∃ j ∈ s.eat, F j b) w'
def Stays (p : Nat → Fact) (B : Nat) (X : Nat → Prop) (w0 : World) (s : Step) : Prop :=
  ∀ (vs us : Nat → Value) (F : Nat → Prop) (w w' : World), Eff B X w0 w → Eff B X w w' → (∀ m ∈ s.i :: s.deps, us m = vs m) → (∀ b, F b → b < w.heap.size) → (∀ b, F b → w'.heap[b]? = w.heap[b]?) → p s.i vs F w → p s.i us F w'
section
variable {P : Program} {l : List Oper} {Q : Exit → Act → World → Prop} {R : World → World → Prop} {T : List Step} {p : Nat → Fact} {B : Nat} {X : Nat → Prop} {w0 : World} {a0 : Act} {L0 : Array Bool}
structure OwnAt (l : List Oper) (T : List Step) (p : Nat → Fact) (B : Nat) (X : Nat → Prop) (w0 : World) (a0 : Act) (L0 L : Array Bool) (vs : Nat → Value) (own : Nat → Nat) (a : Act) (w : World) : Prop where
  size : L.size = l.length
  old : ∀ i : Nat, L0.getD i true = true → L.getD i true = true
  new : ∀ i : Nat, L.getD i true = true → L0.getD i true = true ∨ ∃ t ∈ T, t.i = i
  eff : Eff B X w0 w
  act : a = putAll l vs a0 ((T.map (·.i)).filter fun j => L.getD j true && !L0.getD j true)
  facts : ∀ s ∈ T, L.getD s.i true = true → (∀ k ∈ T, s.i ∈ k.eat → L.getD k.i true = false) → p s.i vs (Own B X own w s.i) w
theorem edge_spec {i j : Nat} (h : edge l i j = true) : ∃ o, l[i]? = some o ∧ ∃ e ∈ o.after, Region.binds .any e = true ∧ e.on = j := by
  unfold edge at h
  split at h
  · rename_i o ho
    simp only [Array.any_eq_true] at h
    obtain ⟨k, hk, he⟩ := h
    simp only [Bool.and_eq_true, beq_iff_eq] at he
    exact ⟨o, ho, o.after[k], Array.getElem_mem hk, he.1, he.2⟩
  · cases h
theorem okTopo_spec : ∀ (js pre : List Nat), okTopo l L0 pre js = true → ∀ i ∈ js, ∀ o, l[i]? = some o → o.guard = none ∧ L0.getD i true = false
  | [], _, _, i, hi, _, _ => by cases hi
  | j :: js, pre, h, i, hi, o, ho => by
    unfold okTopo at h
    rw [Bool.and_eq_true] at h
    rcases List.mem_cons.1 hi with rfl | hi
    · have h1 := h.1
      rw [ho] at h1
      simp only [Bool.and_eq_true, Bool.not_eq_true', Option.isNone_iff_eq_none] at h1
      exact ⟨h1.1.1, h1.1.2⟩
    · exact okTopo_spec js _ h.2 i hi o ho
theorem okTopo_ready {L : Array Bool} (hs : L.size = l.length) (h0 : ∀ i : Nat, L0.getD i true = true → L.getD i true = true) (hsz : L0.size = l.length) : ∀ (js pre : List Nat), okTopo l L0 pre js = true → (∀ i ∈ pre, L.getD i true = true) → (∃ i ∈ js, L.getD i true = false) → ∃ i ∈ js, i ∈ Region.ready .any l.toArray L
  | [], _, _, _, ⟨i, hi, _⟩ => by cases hi
  | j :: js, pre, h, hp, hx => by
    unfold okTopo at h
    rw [Bool.and_eq_true] at h
    cases hj : L.getD j true
    · refine ⟨j, by simp, ?_⟩
      have hlt : j < l.length := by
        rcases Nat.lt_or_ge j l.length with h | h
        · exact h
        · rw [← hs] at h
          simp [Nat.not_lt.2 h] at hj
      have ho : l[j]? = some l[j] := List.getElem?_eq_getElem hlt
      have h1 := h.1
      rw [ho] at h1
      simp only [Bool.and_eq_true] at h1
      have h2 := h1.2
      rw [Array.all_eq_true] at h2
      refine mem_ready.2 ⟨hj, l[j], by rw [List.getElem?_toArray]; exact ho, fun e he hb => ?_⟩
      obtain ⟨k, hk, rfl⟩ := Array.getElem_of_mem he
      have h3 := h2 k hk
      rw [hb] at h3
      simp only [Bool.not_true, Bool.false_or, Bool.or_eq_true] at h3
      have key : ∀ n : Nat, n < l.length → L.getD n true = true → L.getD n false = true := fun n hn h => by
        rw [← hs] at hn
        simpa [hn] using h
      rcases h3 with h3 | h3
      · have hn : l.toArray[j].after[k].on < l.length := by
          rcases Nat.lt_or_ge (l[j].after[k].on) l.length with h | h
          · exact h
          · rw [← hsz] at h
            have h3' : L0.getD (l[j].after[k].on) false = true := h3
            simp [Nat.not_lt.2 h] at h3'
        refine key _ hn (h0 _ ?_)
        rw [← hsz] at hn
        have h3' : L0.getD (l[j].after[k].on) false = true := h3
        have hn' : l[j].after[k].on < L0.size := hn
        simp [hn'] at h3' ⊢
        exact h3'
      · rw [Bool.and_eq_true, decide_eq_true_eq, List.contains_iff_mem] at h3
        exact key _ h3.2 (hp _ h3.1)
    · obtain ⟨i, hi, h'⟩ := hx
      have hne : i ∈ js := by
        rcases List.mem_cons.1 hi with rfl | hi
        · rw [hj] at h'; cases h'
        · exact hi
      obtain ⟨k, hk, hr⟩ := okTopo_ready hs h0 hsz js (j :: pre) h.2 (by intro i hi; rcases List.mem_cons.1 hi with rfl | hi; exact hj; exact hp i hi) ⟨i, hne, h'⟩
      exact ⟨k, by simp [hk], hr⟩
theorem does_mono {P : Program} {x : Sem Next} {w : World} {K K' : Value → World → Prop} (h : ∀ v w', K v w' → K' v w') (hd : Does P x w K) : Does P x w K' := by
  rcases hd with ⟨v, w', h1, h2⟩ | ⟨w', h1, h2⟩ | ⟨f, vals, h1, h2⟩
  · exact .inl ⟨v, w', h1, h _ _ h2⟩
  · exact .inr (.inl ⟨w', h1, h _ _ h2⟩)
  · exact .inr (.inr ⟨f, vals, h1, h2.mono fun e w' ⟨v, he, hk⟩ => ⟨v, he, h _ _ hk⟩⟩)
structure OkOwn (l : List Oper) (T : List Step) (L0 : Array Bool) : Prop where
  size : L0.size = l.length
  nodup : (T.map (·.i)).Nodup
  topo : okTopo l L0 [] (T.map (·.i)) = true
  dst : ∀ s ∈ T, ∀ t ∈ T, s.i ≠ t.i → ∀ x, dstOf l s.i = some x → dstOf l t.i ≠ some x
  opers : ∀ s ∈ T, ∀ x ∈ operTmps l s.i, ∀ t ∈ T, dstOf l t.i = some x → t.i ∈ s.deps
  deps : ∀ s ∈ T, ∀ j ∈ s.deps, (∃ t ∈ T, t.i = j) ∧ (l.length ≤ j ∨ edge l s.i j = true)
  eat : ∀ s ∈ T, ∀ j ∈ s.eat, j ∈ s.deps ∧ ∀ t ∈ T, t.i ≠ s.i → j ∉ t.deps
  tail : ∀ i, i < l.length → L0.getD i true = false → (∀ t ∈ T, t.i ≠ i) → (∀ t ∈ T, l.length ≤ t.i ∨ edge l i t.i = true) ∨ ∃ j, j < l.length ∧ L0.getD j true = false ∧ (∀ t ∈ T, t.i ≠ j) ∧ edge l i j = true
theorem okOwn_spec (h : okOwn l T L0 = true) : OkOwn l T L0 := by
  unfold okOwn at h
  simp only [Bool.and_eq_true, List.all_eq_true, List.any_eq_true, Bool.or_eq_true, beq_iff_eq, decide_eq_true_eq, List.contains_iff_mem, bne_iff_ne, ne_eq, Bool.not_eq_true', Option.isNone_iff_eq_none] at h
  obtain ⟨⟨⟨⟨⟨⟨⟨h1, h2⟩, h3⟩, h4⟩, h5⟩, h6⟩, h7⟩, h8⟩ := h
  refine ⟨h1, h2, h3, ?_, ?_, ?_, ?_, ?_⟩
  · intro s hs t ht hne x hx
    rcases h4 s hs t ht with (e | e) | e
    · exact absurd e hne
    · rw [e] at hx; cases hx
    · rw [hx] at e; exact fun e' => e e'.symm
  · intro s hs x hx t ht e
    rcases h5 s hs x hx t ht with h | h
    · exact absurd e h
    · exact h
  · intro s hs j hj
    exact h6 s hs j hj
  · intro s hs j hj
    obtain ⟨h, h'⟩ := h7 s hs j hj
    refine ⟨h, fun t ht hne hd => ?_⟩
    rcases h' t ht with e | e
    · exact hne e
    · rw [← Bool.not_eq_true, List.contains_iff_mem] at e
      exact e hd
  · intro i hi h0 hT
    rcases h8 i (List.mem_range.2 hi) with (h | ⟨t, ht, e⟩) | h | ⟨j, hj, h⟩
    · rw [h0] at h; cases h
    · exact absurd e (hT t ht)
    · exact .inl h
    · refine .inr ⟨j, List.mem_range.1 hj, h.1.1, fun t ht e => ?_, h.2⟩
      have := h.1.2
      rw [← Bool.not_eq_true, List.any_eq_true] at this
      exact this ⟨t, ht, by rw [beq_iff_eq]; exact e⟩
theorem getD_of_lt {L : Array Bool} {i : Nat} (h : i < L.size) (a b : Bool) : L.getD i a = L.getD i b := by simp [h]
theorem set_getD {L : Array Bool} {i j : Nat} : (L.setIfInBounds i true).getD j true = true ↔ L.getD j true = true ∨ j = i := by
  by_cases e : i = j
  · subst e
    by_cases h : i < L.size <;> simp [h]
  · rw [getD_set_ne true e]
    exact ⟨.inl, fun h => h.resolve_right fun h => e h.symm⟩
theorem set_getD_ff {L : Array Bool} {i j : Nat} (h : (L.setIfInBounds i true).getD j true = false) : L.getD j true = false := by
  cases hj : L.getD j true
  · rfl
  · have := set_getD (i := i).2 (.inl hj)
    rw [h] at this; cases this
def ownNext (own : Nat → Nat) (w : World) (s : Step) : Nat → Nat := fun b => if b < w.heap.size ∧ own b ∉ s.eat then own b else s.i
structure OwnMore (l : List Oper) (T : List Step) (L : Array Bool) (own : Nat → Nat) (w : World) : Prop where
  own : ∀ b, b < w.heap.size → L.getD (own b) true = true
  deps : ∀ t ∈ T, L.getD t.i true = true → ∀ j ∈ t.deps, L.getD j true = true
theorem own_act (ok : OkOwn l T L0) {L : Array Bool} {vs : Nat → Value} {own : Nat → Nat} {a : Act} {w : World} (hsel : Region.noSelect l.toArray = true) (I : OwnAt l T p B X w0 a0 L0 L vs own a w) {s : Step} (hs : s ∈ T) {o : Oper} (ho : l[s.i]? = some o) (hd : ∀ j ∈ s.deps, L.getD j true = true) :
    execOp a.eval o = execOp (putAll l vs a0 (s.deps.filter (· < l.length))).eval o := by
  refine execOp_congr o (fun cs b => Region.noSelect_spec hsel s.i o cs b (by rw [List.getElem?_toArray]; exact ho)) fun x hx => ?_
  cases x with
  | tmp t =>
    have ht : t ∈ operTmps l s.i := by
      unfold operTmps
      rw [ho]
      exact List.mem_filterMap.2 ⟨.tmp t, by simpa using hx, rfl⟩
    have hTs : ∀ j ∈ T.map (·.i), dstOf l j = some t → j ∈ s.deps := fun j hj e => by
      obtain ⟨u, hu, rfl⟩ := List.mem_map.1 hj
      exact ok.opers s hs t ht u hu e
    have hdd : ∀ j ∈ s.deps, j ∈ T.map (·.i) := fun j hj => by
      obtain ⟨⟨u, hu, e⟩, -⟩ := ok.deps s hs j hj
      exact List.mem_map.2 ⟨u, hu, e⟩
    have huni : ∀ j ∈ T.map (·.i), ∀ k ∈ T.map (·.i), k ≠ j → dstOf l j = some t → dstOf l k ≠ some t := fun j hj k hk hne e => by
      obtain ⟨u, hu, rfl⟩ := List.mem_map.1 hj
      obtain ⟨v, hv, rfl⟩ := List.mem_map.1 hk
      exact ok.dst u hu v hv (fun e => hne e.symm) t e
    have hlen : ∀ j, dstOf l j = some t → j < l.length := fun j e => by
      rcases Nat.lt_or_ge j l.length with h | h
      · exact h
      · unfold dstOf at e; rw [List.getElem?_eq_none h] at e; cases e
    rw [I.act]
    by_cases hex : ∃ j ∈ s.deps, dstOf l j = some t
    · obtain ⟨j, hj, e⟩ := hex
      have hjT := hdd j hj
      have h0 : L0.getD j true = false := by
        obtain ⟨u, hu, rfl⟩ := List.mem_map.1 hjT
        exact (okTopo_spec _ _ ok.topo _ hjT _ (List.getElem?_eq_getElem (hlen _ e))).2
      rw [putAll_hit l vs t j e _ _ (List.mem_filter.2 ⟨hjT, by rw [hd j hj, h0]; rfl⟩) fun k hk hne => huni j hjT k (List.mem_filter.1 hk).1 hne e,
        putAll_hit l vs t j e _ _ (List.mem_filter.2 ⟨hj, by simpa using hlen j e⟩) fun k hk hne => huni j hjT k (hdd k (List.mem_filter.1 hk).1) hne e]
    · rw [putAll_miss l vs t _ _ fun j hj e => hex ⟨j, hTs j (List.mem_filter.1 hj).1 e, e⟩, putAll_miss l vs t _ _ fun j hj e => hex ⟨j, (List.mem_filter.1 hj).1, e⟩]
  | _ => rfl
theorem own_step (ok : OkOwn l T L0) {L : Array Bool} {vs : Nat → Value} {own : Nat → Nat} {a : Act} {w : World} (I : OwnAt l T p B X w0 a0 L0 L vs own a w) (J : OwnMore l T L own w) (hB : B ≤ w0.heap.size)
    (hst : ∀ s ∈ T, Stays p B X w0 s) {s : Step} (hs : s ∈ T) {o : Oper} (ho : l[s.i]? = some o) (hL : L.getD s.i true = false) (hd : ∀ j ∈ s.deps, L.getD j true = true) {v : Value} {w' : World}
    (he : Eff B X w w') (hk : ∀ b, b < w.heap.size → (∀ j ∈ s.eat, ¬ Own B X own w j b) → w'.heap[b]? = w.heap[b]?)
    (hp : p s.i (upd vs s.i v) (fun b => (w.heap.size ≤ b ∧ b < w'.heap.size) ∨ ∃ j ∈ s.eat, Own B X own w j b) w') :
    OwnAt l T p B X w0 a0 L0 (L.setIfInBounds s.i true) (upd vs s.i v) (ownNext own w s) (a.put o.dst v) w' ∧ OwnMore l T (L.setIfInBounds s.i true) (ownNext own w s) w' := by
  have hsi : s.i < l.length := (List.getElem?_eq_some_iff.1 ho).1
  have hoi : dstOf l s.i = o.dst := by simp [dstOf, ho]
  have hsT : s.i ∈ T.map (·.i) := List.mem_map.2 ⟨s, hs, rfl⟩
  have hL0 : L0.getD s.i true = false := (okTopo_spec _ _ ok.topo _ hsT _ ho).2
  have hne : ∀ b, b < w.heap.size → own b ≠ s.i := fun b hb e => by
    have := J.own b hb
    rw [e, hL] at this
    cases this
  have huniq : ∀ t ∈ T, t.i = s.i → t = s := fun t ht e => by
    have hn := ok.nodup
    obtain ⟨i, hi, rfl⟩ := List.getElem_of_mem ht
    obtain ⟨j, hj, rfl⟩ := List.getElem_of_mem hs
    have := (List.getElem_inj (h₀ := by simpa using hi) (h₁ := by simpa using hj) hn).1 (by simpa using e)
    subst this
    rfl
  refine ⟨⟨by simp [I.size], fun i h => set_getD.2 (.inl (I.old i h)), fun i h => ?_, eff_trans I.eff he, ?_, ?_⟩, ⟨fun b hb => ?_, fun t ht h j hj => ?_⟩⟩
  · rcases set_getD.1 h with h | rfl
    · exact I.new i h
    · exact .inr ⟨s, hs, rfl⟩
  · rw [I.act, ← hoi]
    refine (putAll_ins l vs s.i v _ _ _ a0 ok.nodup hsT (by rw [hL]; rfl) (by rw [set_getD.2 (.inr rfl), hL0]; rfl) (fun j _ hne => ?_) (fun j hj hne t e => ?_)).symm
    · have : (L.setIfInBounds s.i true).getD j true = L.getD j true := getD_set_ne true fun e => hne e.symm
      rw [this]
    · obtain ⟨u, hu, rfl⟩ := List.mem_map.1 hj
      exact ok.dst s hs u hu (fun e => hne e.symm) t e
  · intro t ht hLt hea
    by_cases e : t.i = s.i
    · obtain rfl := huniq t ht e
      have e2 : Own B X (ownNext own w t) w' t.i = (fun b => (w.heap.size ≤ b ∧ b < w'.heap.size) ∨ ∃ j ∈ t.eat, Own B X own w j b) := by
        funext b
        apply propext
        unfold Own ownNext
        constructor
        · rintro ⟨h1, h2, h3⟩
          rcases Nat.lt_or_ge b w.heap.size with h | h
          · by_cases hm : own b ∈ t.eat
            · exact .inr ⟨own b, hm, h, h2, rfl⟩
            · rw [if_pos ⟨h, hm⟩] at h3
              exact absurd h3 (hne b h)
          · exact .inl ⟨h, h1⟩
        · rintro (⟨h1, h2⟩ | ⟨j, hj, h1, h2, rfl⟩)
          · exact ⟨h2, .inl (Nat.le_trans hB (Nat.le_trans I.eff.2.2.2.1 h1)), if_neg fun h => by omega⟩
          · exact ⟨Nat.lt_of_lt_of_le h1 he.2.2.2.1, h2, if_neg fun h => h.2 hj⟩
      rw [e2]
      exact hp
    · have hLt' : L.getD t.i true = true := (set_getD.1 hLt).resolve_right e
      have hte : t.i ∉ s.eat := fun h => by
        have := hea s hs h
        rw [set_getD.2 (.inr rfl)] at this
        cases this
      have hf := I.facts t ht hLt' fun k hk h => set_getD_ff (hea k hk h)
      have e2 : Own B X (ownNext own w s) w' t.i = Own B X own w t.i := by
        funext b
        apply propext
        unfold Own ownNext
        constructor
        · rintro ⟨h1, h2, h3⟩
          by_cases hm : b < w.heap.size ∧ own b ∉ s.eat
          · rw [if_pos hm] at h3
            exact ⟨hm.1, h2, h3⟩
          · rw [if_neg hm] at h3
            exact absurd h3.symm e
        · rintro ⟨h1, h2, h3⟩
          rw [← h3] at hte
          exact ⟨Nat.lt_of_lt_of_le h1 he.2.2.2.1, h2, by rw [if_pos ⟨h1, hte⟩]; exact h3⟩
      rw [e2]
      refine hst t ht vs _ _ w w' I.eff he (fun m hm => upd_ne fun e => ?_) (fun b hb => hb.1) (fun b hb => ?_) hf
      · subst e
        rcases List.mem_cons.1 hm with h | h
        · exact ‹¬ t.i = s.i› h.symm
        · have := J.deps t ht hLt' _ h
          rw [hL] at this
          cases this
      · refine hk b hb.1 fun j hj hO => ?_
        have := hO.2.2
        rw [hb.2.2] at this
        exact hte (this ▸ hj)
  · unfold ownNext
    split
    · rename_i h
      exact set_getD.2 (.inl (J.own b h.1))
    · exact set_getD.2 (.inr rfl)
  · rcases set_getD.1 h with h | h
    · exact set_getD.2 (.inl (J.deps t ht h j hj))
    · obtain rfl := huniq t ht h
      exact set_getD.2 (.inl (hd j hj))
def allUp (T : List Step) (L0 : Array Bool) : Array Bool := T.foldl (fun L s => L.setIfInBounds s.i true) L0
theorem allUp_getD : ∀ (T : List Step) (L0 : Array Bool) (j : Nat), (allUp T L0).getD j true = true ↔ L0.getD j true = true ∨ ∃ t ∈ T, t.i = j
  | [], L0, j => by simp [allUp]
  | s :: T, L0, j => by
    show (allUp T (L0.setIfInBounds s.i true)).getD j true = true ↔ _
    rw [allUp_getD T, set_getD]
    constructor
    · rintro ((h | rfl) | ⟨t, ht, e⟩)
      · exact .inl h
      · exact .inr ⟨s, by simp, rfl⟩
      · exact .inr ⟨t, by simp [ht], e⟩
    · rintro (h | ⟨t, ht, e⟩)
      · exact .inl (.inl h)
      · rcases List.mem_cons.1 ht with rfl | ht
        · exact .inl (.inr e.symm)
        · exact .inr ⟨t, ht, e⟩
theorem allUp_size : ∀ (T : List Step) (L0 : Array Bool), (allUp T L0).size = L0.size
  | [], _ => rfl
  | s :: T, L0 => by
    show (allUp T (L0.setIfInBounds s.i true)).size = _
    rw [allUp_size T]; simp
theorem own_all (M : Moves R) (hsel : Region.noSelect l.toArray = true) (ok : OkOwn l T L0) (hB : B ≤ w0.heap.size) (hR : ∀ w', Eff B X w0 w' → R w0 w') (hst : ∀ s ∈ T, Stays p B X w0 s) (htask : ∀ s ∈ T, Task P l p B X w0 a0 s) {fr : Nat}
    (hfin : ∀ (w : World) (vs : Nat → Value) (F : Nat → Nat → Prop), Eff B X w0 w → (∀ s ∈ T, (∀ k ∈ T, s.i ∉ k.eat) → p s.i vs (F s.i) w ∧ ∀ b, F s.i b → b < w.heap.size ∧ (B ≤ b ∨ X b)) → (∀ j k b, j ≠ k → F j b → ¬ F k b) →
      wpR P l.toArray Q R fr (allUp T L0) (putAll l vs a0 ((T.map (·.i)).filter (· < l.length))) w) :
    ∀ (n : Nat) (L : Array Bool) (vs : Nat → Value) (own : Nat → Nat) (a : Act) (w : World), (T.filter fun s => !L.getD s.i true).length = n → OwnAt l T p B X w0 a0 L0 L vs own a w → OwnMore l T L own w → wpAnyH P .any l.toArray Q (R w0) (n + fr) L a w := by
  intro n
  induction n with
  | zero =>
    intro L vs own a w hn I J
    have hup : ∀ t ∈ T, L.getD t.i true = true := fun t ht => by
      have := List.eq_nil_of_length_eq_zero hn
      rw [List.filter_eq_nil_iff] at this
      simpa using this t ht
    have hLe : L = allUp T L0 := by
      apply Array.ext
      · rw [allUp_size, I.size, ok.size]
      · intro i h1 h2
        have e1 : L.getD i true = L[i] := by simp [h1]
        have e2 : (allUp T L0).getD i true = (allUp T L0)[i] := by simp [h2]
        rw [← e1, ← e2, Bool.eq_iff_iff, allUp_getD]
        constructor
        · exact I.new i
        · rintro (h | ⟨t, ht, rfl⟩)
          · exact I.old i h
          · exact hup t ht
    have hact : a = putAll l vs a0 ((T.map (·.i)).filter (· < l.length)) := by
      rw [I.act]
      congr 1
      refine List.filter_congr fun j hj => ?_
      obtain ⟨t, ht, rfl⟩ := List.mem_map.1 hj
      rw [hup t ht, Bool.true_and]
      rcases Nat.lt_or_ge t.i l.length with h | h
      · rw [(okTopo_spec _ _ ok.topo _ hj _ (List.getElem?_eq_getElem h)).2]
        simp [h]
      · have : L0.getD t.i true = true := by rw [← ok.size] at h; simp [Nat.not_lt.2 h]
        rw [this]
        simp [Nat.not_lt.2 h]
    have hf := hfin w vs (Own B X own w) I.eff (fun s hs hne => ⟨I.facts s hs (hup s hs) fun k hk h => absurd h (hne k hk), fun b hb => ⟨hb.1, hb.2.1⟩⟩) (fun j k b hne h1 h2 => hne (h1.2.2.symm.trans h2.2.2))
    rw [Nat.zero_add, hLe, hact]
    exact wpAnyH_sub (fun w2 h2 => M.trans _ _ _ (hR _ I.eff) h2) _ _ _ _ hf
  | succ n ih =>
    intro L vs own a w hn I J
    have hex : ∃ s ∈ T, L.getD s.i true = false := by
      cases h : T.filter (fun s => !L.getD s.i true) with
      | nil => rw [h] at hn; cases hn
      | cons s r =>
        have : s ∈ T.filter (fun s => !L.getD s.i true) := by rw [h]; simp
        obtain ⟨h1, h2⟩ := List.mem_filter.1 this
        exact ⟨s, h1, by simpa using h2⟩
    rw [show n + 1 + fr = (n + fr) + 1 by omega]
    refine ⟨fun h => ?_, fun i hi => ?_⟩
    · obtain ⟨s, hs, h'⟩ := hex
      obtain ⟨i, -, hi⟩ := okTopo_ready I.size I.old ok.size _ _ ok.topo (by simp) ⟨s.i, List.mem_map.2 ⟨s, hs, rfl⟩, h'⟩
      rw [h] at hi
      cases hi
    · obtain ⟨hLi, o, ho, hall⟩ := mem_ready.1 hi
      rw [List.getElem?_toArray] at ho
      have hil : i < l.length := (List.getElem?_eq_some_iff.1 ho).1
      have hedge : ∀ j, edge l i j = true → L.getD j true = true := fun j h => by
        obtain ⟨o', ho', e, he, hb, rfl⟩ := edge_spec h
        rw [ho] at ho'
        obtain rfl := Option.some.inj ho'
        have := hall e he hb
        rcases Nat.lt_or_ge e.on L.size with h | h
        · rw [getD_of_lt h true false]; exact this
        · simp [Nat.not_lt.2 h]
      have hT : ∃ s ∈ T, s.i = i := by
        refine Classical.byContradiction fun hno => ?_
        have h0 : L0.getD i true = false := by
          cases h : L0.getD i true
          · rfl
          · have := I.old i h; rw [hLi] at this; cases this
        rcases ok.tail i hil h0 (fun t ht e => hno ⟨t, ht, e⟩) with h | ⟨j, hj, h1, h2, h3⟩
        · obtain ⟨s, hs, h'⟩ := hex
          rcases h s hs with h | h
          · rw [← I.size] at h
            simp [Nat.not_lt.2 h] at h'
          · rw [hedge _ h] at h'; cases h'
        · have h4 := hedge _ h3
          rcases I.new j h4 with h | ⟨t, ht, e⟩
          · rw [h1] at h; cases h
          · exact h2 t ht e
      obtain ⟨s, hs, rfl⟩ := hT
      have hd : ∀ j ∈ s.deps, L.getD j true = true := fun j hj => by
        rcases (ok.deps s hs j hj).2 with h | h
        · rw [← I.size] at h; simp [Nat.not_lt.2 h]
        · exact hedge _ h
      have hg := (okTopo_spec _ _ ok.topo s.i (List.mem_map.2 ⟨s, hs, rfl⟩) o ho).1
      unfold wpOp
      rw [List.getElem?_toArray, ho]
      simp only [Region.wanted, hg, if_true]
      refine .inl (does_wp ?_)
      rw [own_act ok hsel I hs ho hd]
      refine does_mono ?_ (htask s hs o ho w vs (Own B X own w) I.eff (fun j hj => ⟨?_, fun b hb => ⟨hb.1, hb.2.1⟩⟩) fun j k b hne h1 h2 => hne (h1.2.2.symm.trans h2.2.2))
      · rintro v w' ⟨he, hk, hp⟩
        obtain ⟨I', J'⟩ := own_step ok I J hB hst hs ho hLi hd he hk hp
        refine ⟨hR _ I'.eff, ih _ _ _ _ _ ?_ I' J'⟩
        have e1 : (T.filter fun t => !(L.setIfInBounds s.i true).getD t.i true) = (T.filter fun t => !L.getD t.i true).filter fun t => t.i != s.i := by
          rw [List.filter_filter]
          refine List.filter_congr fun t ht => ?_
          rw [Bool.eq_iff_iff]
          simp only [Bool.not_eq_true', Bool.and_eq_true, bne_iff_ne, ne_eq]
          constructor
          · intro h
            refine ⟨fun e => ?_, set_getD_ff h⟩
            rw [set_getD.2 (.inr e)] at h; cases h
          · rintro ⟨h1, h2⟩
            cases h : (L.setIfInBounds s.i true).getD t.i true
            · rfl
            · rcases set_getD.1 h with h | h
              · rw [h2] at h; cases h
              · exact absurd h h1
        rw [e1]
        have := nodup_drop (T.filter fun t => !L.getD t.i true) s.i ((List.Sublist.map _ List.filter_sublist).nodup ok.nodup) ⟨s, List.mem_filter.2 ⟨hs, by rw [hLi]; rfl⟩, rfl⟩
        omega
      · obtain ⟨⟨t, ht, rfl⟩, -⟩ := ok.deps s hs j hj
        refine I.facts t ht (hd _ hj) fun k hk h => ?_
        by_cases e : k.i = s.i
        · rw [e]; exact hLi
        · exact absurd hj ((ok.eat k hk _ h).2 s hs fun e' => e e'.symm)
where
  nodup_drop : ∀ (T : List Step) (i : Nat), (T.map (·.i)).Nodup → (∃ s ∈ T, s.i = i) → (T.filter fun t => t.i != i).length + 1 = T.length
    | [], _, _, ⟨_, h, _⟩ => by cases h
    | t :: T, i, hn, ⟨s, hs, e⟩ => by
      obtain ⟨h1, h2⟩ := List.nodup_cons.1 hn
      by_cases ht : t.i = i
      · rw [List.filter_cons_of_neg (by simp [ht])]
        have : T.filter (fun t => t.i != i) = T := List.filter_eq_self.2 fun u hu => by
          rw [bne_iff_ne]
          intro e'
          exact h1 (List.mem_map.2 ⟨u, hu, e'.trans ht.symm⟩)
        rw [this]; rfl
      · rw [List.filter_cons_of_pos (by simpa using ht)]
        have := nodup_drop T i h2 (by
          rcases List.mem_cons.1 hs with rfl | hs
          · exact absurd e ht
          · exact ⟨s, hs, e⟩)
        simp only [List.length_cons]
        omega
theorem wpR_own (M : Moves R) (hsel : Region.noSelect l.toArray = true) (hok : okOwn l T L0 = true) (hB : B ≤ w0.heap.size) (hR : ∀ w', Eff B X w0 w' → R w0 w') (vs0 : Nat → Value) (own0 : Nat → Nat) (hown0 : ∀ b, b < w0.heap.size → l.length ≤ own0 b)
    (h0 : ∀ s ∈ T, l.length ≤ s.i → p s.i vs0 (Own B X own0 w0 s.i) w0) (hst : ∀ s ∈ T, Stays p B X w0 s) (htask : ∀ s ∈ T, Task P l p B X w0 a0 s) {fr n : Nat} (hn : (T.filter (fun s => !L0.getD s.i true)).length + fr = n)
    (hfin : ∀ (w : World) (vs : Nat → Value) (F : Nat → Nat → Prop), Eff B X w0 w → (∀ s ∈ T, (∀ k ∈ T, s.i ∉ k.eat) → p s.i vs (F s.i) w ∧ ∀ b, F s.i b → b < w.heap.size ∧ (B ≤ b ∨ X b)) → (∀ j k b, j ≠ k → F j b → ¬ F k b) →
      wpR P l.toArray Q R fr (allUp T L0) (putAll l vs a0 ((T.map (·.i)).filter (· < l.length))) w) : wpR P l.toArray Q R n L0 a0 w0 := by
  have ok := okOwn_spec hok
  have hge : ∀ j, l.length ≤ j → L0.getD j true = true := fun j h => by rw [← ok.size] at h; simp [Nat.not_lt.2 h]
  have hlow : ∀ s ∈ T, L0.getD s.i true = true → l.length ≤ s.i := fun s hs h => by
    rcases Nat.lt_or_ge s.i l.length with h1 | h1
    · rw [(okTopo_spec _ _ ok.topo _ (List.mem_map.2 ⟨s, hs, rfl⟩) _ (List.getElem?_eq_getElem h1)).2] at h; cases h
    · exact h1
  subst hn
  refine own_all M hsel ok hB hR hst htask hfin _ L0 vs0 own0 a0 w0 rfl ⟨ok.size, fun _ h => h, fun _ h => .inl h, eff_refl _ _ _, ?_, fun s hs h _ => h0 s hs (hlow s hs h)⟩ ⟨fun b hb => hge _ (hown0 b hb), fun t ht h j hj => ?_⟩
  · have : (T.map (·.i)).filter (fun j => L0.getD j true && !L0.getD j true) = [] := List.filter_eq_nil_iff.2 fun j _ => by cases L0.getD j true <;> simp
    rw [this]
    rfl
  · rcases (ok.deps t ht j hj).2 with h' | h'
    · exact hge j h'
    · obtain ⟨o, ho, -⟩ := edge_spec h'
      have := hlow t ht h
      rw [List.getElem?_eq_none this] at ho
      cases ho
end
def From (B : Nat) (w w' : World) : Prop := Below B w w'
theorem from_moves (B : Nat) : Moves (From B) := ⟨fun w => Below.refl _ w, fun _ _ _ h k => Below.trans h k⟩
theorem from_cellsD {B : Nat} {w w' : World} (h : From B w.drew w') : ∀ b o, b < B → w'.cell? ⟨b, o, none⟩ = w.cell? ⟨b, o, none⟩ := fun b o hb => Below.cell h (p := ⟨b, o, none⟩) hb
theorem from_later {B : Nat} {w w' : World} (h : Below w.heap.size w w') (hB : B ≤ w.heap.size) : From B w w' := h.mono hB
theorem from_set {B : Nat} (w : World) {g i : Nat} (v : Value) (hg : B ≤ g) : From B w (w.setCell ⟨g, i, none⟩ v) := (Below.refl B w).setCell (p := ⟨g, i, none⟩) hg v
def okL (l : List Oper) : List Nat → Array Bool → Bool
  | [], _ => true
  | i :: rest, listed => decide (i < l.length) && Region.free .any l.toArray listed i && (Region.ready .any l.toArray listed).contains i && okL l rest (listed.setIfInBounds i true)
def wpL (P : Program) (l : List Oper) (Q : Exit → Act → World → Prop) (R : World → World → Prop) (order : List Nat) (fuel : Nat) (listed : Array Bool) (a : Act) (w : World) : Prop :=
  Region.noSelect l.toArray = true → okL l order listed = true → wpR P l.toArray Q R (order.length + fuel) listed a w
section
variable {P : Program} {l : List Oper} {Q : Exit → Act → World → Prop} {R : World → World → Prop} {rest : List Nat} {fuel i : Nat} {o : Oper} {listed : Array Bool} {a : Act} {w : World}
theorem wpL_begin {id : Nat} (R : World → World → Prop) (order : List Nat) (fuel : Nat) (hm : P.follows .mixedOrders = true) (hok : (Region.noSelect l.toArray && order.length + fuel == l.length && okL l order (List.replicate l.length false).toArray) = true)
    (h : wpL P l Q R order fuel (List.replicate l.length false).toArray a w.drew) : (Code.region id l.toArray true).wp P Q a w := by
  simp only [Bool.and_eq_true, beq_iff_eq] at hok
  refine wpR_begin R hm ?_
  rw [← hok.1.2]
  have := h hok.1.1 hok.2
  rwa [hok.1.2] at this ⊢
theorem wpL_startK (M : Moves R) {order : List Nat} (h : ∀ W, Hid (W = w) → R w W → wpL P l Q R order fuel listed a W) : wpL P l Q R order fuel listed a w := h w rfl (M.refl w)
theorem okL_cons (h : okL l (i :: rest) listed = true) : i < l.length ∧ Region.free .any l.toArray listed i = true ∧ (Region.ready .any l.toArray listed).contains i = true ∧ okL l rest (listed.setIfInBounds i true) = true := by
  unfold okL at h
  simp only [Bool.and_eq_true, decide_eq_true_eq] at h
  obtain ⟨⟨⟨h1, h2⟩, h3⟩, h4⟩ := h
  exact ⟨h1, h2, h3, h4⟩
theorem wpL_light {v : Value} (M : Moves R) (ho : l[i]? = some o) (hw : Region.wanted o (yielded l.toArray a.tmps) = true) (hQ : ∀ c a w, Q (.panic c) (a.put o.dst v) w → Q (.panic c) a w)
    (hrun : ∀ w', R w w' → (execOp a.eval o).run P w' = .ok (.value v) w') (h : wpL P l Q R rest fuel (listed.setIfInBounds i true) (a.put o.dst v) w) : wpL P l Q R (i :: rest) fuel listed a w := by
  intro hn hok
  obtain ⟨h1, h2, h3, h5⟩ := okL_cons hok
  have e := get_of (h := h1) ho
  subst e
  have := wpR_take (fuel := rest.length + fuel) i M h1 hn h2 h3 hQ (.inl ⟨hw, hrun⟩) (h hn h5)
  rw [List.length_cons, show rest.length + 1 + fuel = rest.length + fuel + 1 by omega]
  exact this
theorem wpL_skip (M : Moves R) (ho : l[i]? = some o) (hw : Region.wanted o (yielded l.toArray a.tmps) = false) (hQ : ∀ c a w, Q (.panic c) (a.put o.dst undef) w → Q (.panic c) a w)
    (h : wpL P l Q R rest fuel (listed.setIfInBounds i true) (a.put o.dst undef) w) : wpL P l Q R (i :: rest) fuel listed a w := by
  intro hn hok
  obtain ⟨h1, h2, h3, h5⟩ := okL_cons hok
  have e := get_of (h := h1) ho
  subst e
  have := wpR_take (fuel := rest.length + fuel) i M h1 hn h2 h3 hQ (.inr ⟨hw, rfl⟩) (h hn h5)
  rw [List.length_cons, show rest.length + 1 + fuel = rest.length + fuel + 1 by omega]
  exact this
end
def puts (a : Act) (vs : Nat → Value) (js : List (Option Tmp × Nat)) : Act := js.foldl (fun a j => a.put j.1 (vs j.2)) a
theorem puts_putAll (l : List Oper) (vs : Nat → Value) : ∀ (js : List Nat) (a : Act), putAll l vs a js = puts a vs (js.map fun j => (dstOf l j, j))
  | [], _ => rfl
  | _ :: js, _ => puts_putAll l vs js _
section
variable {P : Program} {l : List Oper} {Q : Exit → Act → World → Prop} {R : World → World → Prop} {T : List Step} {ps : List (Nat × Fact)} {B : Nat} {w0 : World} {a0 : Act} {L0 : Array Bool}
abbrev NoX : Nat → Prop := fun _ => False
theorem eff_below {B : Nat} {w w' : World} : Eff B NoX w w' ↔ Below B w w' := ⟨fun h => ⟨h.1, h.2.1, h.2.2.1, h.2.2.2.1, fun b hb => h.2.2.2.2 b hb id⟩, fun h => ⟨h.os, h.tape, h.output, h.size, fun b hb _ => h.block b hb⟩⟩
def Grown (w w' : World) (F : Nat → Nat → Prop) (eat : List Nat) : Nat → Prop := fun b => (w.heap.size ≤ b ∧ b < w'.heap.size) ∨ ∃ j ∈ eat, F j b
def Near (B : Nat) (w w' : World) (F : Nat → Nat → Prop) (eat : List Nat) : Prop := Below B w w' ∧ ∀ b, b < w.heap.size → (∀ j ∈ eat, ¬ F j b) → w'.heap[b]? = w.heap[b]?
theorem near_same (B : Nat) (w : World) (F : Nat → Nat → Prop) (eat : List Nat) : Near B w w F eat := ⟨Below.refl _ _, fun _ _ _ => rfl⟩
theorem near_below {B : Nat} {w w' : World} (h : Below w.heap.size w w') (hB : B ≤ w.heap.size) (F : Nat → Nat → Prop) (eat : List Nat) : Near B w w' F eat := ⟨h.mono hB, fun b hb _ => h.block b hb⟩
theorem wpL_own (M : Moves R) (T : List Step) (ps : List (Nat × Fact)) (js : List (Option Tmp × Nat)) (hs tail : List Nat) {fuel : Nat} (hn : Region.noSelect l.toArray = true)
    (hok : (okOwn l T L0 && (T.all fun s => decide (s.i < l.length)) && decide (T.length + tail.length = fuel) && okOrd l hs tail (allUp T L0) && (((T.map (·.i)).map fun j => (dstOf l j, j)) == js)) = true)
    (hB : B ≤ w0.heap.size) (hR : ∀ w', Below B w0 w' → R w0 w') (hst : ∀ s ∈ T, Stays (pick ps) B NoX w0 s) (htask : ∀ s ∈ T, Task P l (pick ps) B NoX w0 a0 s)
    (hfin : ∀ (w : World) (vs : Nat → Value) (F : Nat → Nat → Prop), Below B w0 w → (∀ s ∈ T, (∀ k ∈ T, s.i ∉ k.eat) → pick ps s.i vs (F s.i) w ∧ ∀ b, F s.i b → b < w.heap.size ∧ B ≤ b) → (∀ j k b, j ≠ k → F j b → ¬ F k b) →
      wpO P l hs Q R tail (allUp T L0) (puts a0 vs js) w) : wpL P l Q R [] fuel L0 a0 w0 := by
  intro _ _
  simp only [Bool.and_eq_true, beq_iff_eq, decide_eq_true_eq] at hok
  obtain ⟨⟨⟨⟨h1, h2⟩, h3⟩, h4⟩, h5⟩ := hok
  rw [List.all_eq_true] at h2
  have ok := okOwn_spec h1
  have hlt : ∀ s ∈ T, s.i < l.length := fun s hs => by simpa using h2 s hs
  have hall : ∀ s ∈ T, L0.getD s.i true = false := fun s hs => (okTopo_spec _ _ ok.topo _ (List.mem_map.2 ⟨s, hs, rfl⟩) _ (List.getElem?_eq_getElem (hlt s hs))).2
  rw [List.length_nil, Nat.zero_add]
  refine wpR_own (X := NoX) (fr := tail.length) M hn h1 hB (fun w' h => hR w' (eff_below.1 h)) (fun _ => undef) (fun _ => l.length) (fun _ _ => Nat.le_refl _) (fun s hs h => absurd (hlt s hs) (Nat.not_lt.2 h)) hst htask ?_ fun w vs F he hf hd => ?_
  · rw [List.filter_eq_self.2 fun s hs => by rw [hall s hs]; rfl]
    exact h3
  · have e : (T.map (·.i)).filter (· < l.length) = T.map (·.i) := List.filter_eq_self.2 fun j hj => by
      obtain ⟨s, hs, rfl⟩ := List.mem_map.1 hj
      simpa using hlt s hs
    rw [e, puts_putAll, h5]
    exact hfin w vs F (eff_below.1 he) (fun s hs hne => ⟨(hf s hs hne).1, fun b hb => ⟨((hf s hs hne).2 b hb).1, ((hf s hs hne).2 b hb).2.resolve_right id⟩⟩) hd hn h4
theorem task_mk {s : Step} {o : Oper} (js : List (Option Tmp × Nat)) (ho : l[s.i]? = some o) (hjs : ((s.deps.filter (· < l.length)).map fun j => (dstOf l j, j)) = js)
    (h : ∀ (w : World) (vs : Nat → Value) (F : Nat → Nat → Prop), Below B w0 w → (∀ j ∈ s.deps, pick ps j vs (F j) w ∧ ∀ b, F j b → b < w.heap.size ∧ B ≤ b) → (∀ j k b, j ≠ k → F j b → ¬ F k b) →
      Does P (execOp (puts a0 vs js).eval o) w fun v w' => Near B w w' F s.eat ∧ pick ps s.i (upd vs s.i v) (Grown w w' F s.eat) w') : Task P l (pick ps) B NoX w0 a0 s := by
  intro o' ho' w vs F he hd hdis
  rw [ho] at ho'
  obtain rfl := Option.some.inj ho'
  rw [puts_putAll, hjs]
  refine does_mono ?_ (h w vs F (eff_below.1 he) (fun j hj => ⟨(hd j hj).1, fun b hb => ⟨((hd j hj).2 b hb).1, ((hd j hj).2 b hb).2.resolve_right id⟩⟩) hdis)
  rintro v w' ⟨h1, h2⟩
  exact ⟨eff_below.2 h1.1, h1.2, h2⟩
end
def ValAt (f : (Nat → Value) → Value) (i : Nat) : Fact := fun vs _ _ => vs i = f vs
def BlkAt (t : TypeId) (cs : (Nat → Value) → Array Value) (mk : Nat → Value) (i : Nat) : Fact := fun vs F w => ∃ g, vs i = mk g ∧ F g ∧ Blk w g t (cs vs)
abbrev mkS (n : Nat) : Nat → Value := fun g => .slice (some ⟨g, 0, none⟩) n n
abbrev mkP : Nat → Value := fun g => .pointer (some ⟨g, 0, none⟩)
section
variable {p : Nat → Fact} {B : Nat} {X : Nat → Prop} {w0 : World} {s : Step}
theorem stays_val {f : (Nat → Value) → Value} (hp : p s.i = ValAt f s.i) (hf : ∀ vs us : Nat → Value, (∀ m ∈ s.deps, us m = vs m) → f us = f vs) : Stays p B X w0 s := by
  intro vs us F w w' _ _ h _ _ hv
  rw [hp] at hv ⊢
  unfold ValAt at *
  rw [h _ (by simp), hv, hf vs us fun m hm => h m (by simp [hm])]
theorem stays_blk {t : TypeId} {cs : (Nat → Value) → Array Value} {mk : Nat → Value} (hp : p s.i = BlkAt t cs mk s.i) (hf : ∀ vs us : Nat → Value, (∀ m ∈ s.deps, us m = vs m) → cs us = cs vs) : Stays p B X w0 s := by
  intro vs us F w w' _ _ h _ hk hv
  rw [hp] at hv ⊢
  obtain ⟨g, h1, h2, h3⟩ := hv
  exact ⟨g, by rw [h _ (by simp), h1], h2, by rw [hf vs us fun m hm => h m (by simp [hm])]; exact (hk g h2).trans h3⟩
theorem blk_of {w w' : World} {t : TypeId} {cs : (Nat → Value) → Array Value} {mk : Nat → Value} {F : Nat → Nat → Prop} {eat : List Nat} {vs : Nat → Value} {i g : Nat} (h : Blk w' g t (cs (upd vs i (mk g)))) (hg : w.heap.size ≤ g) : BlkAt t cs mk i (upd vs i (mk g)) (Grown w w' F eat) w' :=
  ⟨g, upd_self _ _ _, .inl ⟨hg, h.lt⟩, h⟩
end
end Go.Proofs.YtakjnmojigechaaGreat
