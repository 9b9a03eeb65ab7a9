/-
  The program's field: pow.
-/
import Derived.Test.YtefnagiffllhbaaJN2
import Derived.Shelf.Spec.BitsCarry

/- OrdV -/
namespace Go.Proofs.Ytefnagiffllhbaa
open Go.RowKit

/-- Has one of the bars come up? -/
def past (bars : List Nat) (listed : Array Bool) : Bool := bars.any fun b => listed.getD b true
theorem past_set {bars : List Nat} {listed : Array Bool} {j : Nat} (h : j ∉ bars) : past bars (listed.setIfInBounds j true) = past bars listed := by
  unfold past
  induction bars with
  | nil => rfl
  | cons b r ih =>
    simp only [List.mem_cons, not_or] at h
    simp only [List.any_cons]
    rw [getD_set_ne true h.1, ih h.2]

section
variable {P : Program} {ops : Array Oper} {Q : Exit → Act → World → Prop} {bars : List Nat} {S : World → Prop}
/-- Whatever order is picked; S holds behind every operation before a bar. -/
def wpAnyB (P : Program) (ops : Array Oper) (Q : Exit → Act → World → Prop) (bars : List Nat) (S : World → Prop) : Nat → Array Bool → Act → World → Prop
  | 0, listed, a, w => Region.ready .any ops listed = [] ∧ Q .normal a w
  | fuel + 1, listed, a, w =>
    (Region.ready .any ops listed = [] → Q .normal a w) ∧
    ∀ i ∈ Region.ready .any ops listed, wpOp P ops Q i (fun a' w' => (past bars (listed.setIfInBounds i true) = false → S w') ∧ wpAnyB P ops Q bars S fuel (listed.setIfInBounds i true) a' w') a w
theorem wpAny_of_B : ∀ (fuel : Nat) (listed : Array Bool) (a : Act) (w : World), wpAnyB P ops Q bars S fuel listed a w → wpAny P .any ops Q fuel listed a w
  | 0, _, _, _, h => h
  | fuel + 1, _, _, _, h => ⟨h.1, fun i hi => wpOp_mono (fun a' w' h' => wpAny_of_B fuel _ a' w' h'.2) (h.2 i hi)⟩
theorem wpAnyB_sub {S' : World → Prop} (hS : ∀ w, S' w → S w) : ∀ (fuel : Nat) (listed : Array Bool) (a : Act) (w : World), wpAnyB P ops Q bars S' fuel listed a w → wpAnyB P ops Q bars S fuel listed a w
  | 0, _, _, _, h => h
  | fuel + 1, _, _, _, h => ⟨h.1, fun i hi => wpOp_mono (fun a' w' h' => ⟨fun hp => hS _ (h'.1 hp), wpAnyB_sub hS fuel _ a' w' h'.2⟩) (h.2 i hi)⟩
theorem past_mono {listed : Array Bool} {i : Nat} (h : past bars listed = true) : past bars (listed.setIfInBounds i true) = true := by
  unfold past at *
  rw [List.any_eq_true] at *
  obtain ⟨b, hb, h1⟩ := h
  refine ⟨b, hb, ?_⟩
  by_cases e : i = b
  · subst e
    rcases Nat.lt_or_ge i listed.size with h2 | h2
    · simp [h2]
    · simp [Nat.not_lt.2 h2]
  · rw [getD_set_ne true e]; exact h1
/-- Behind the bar nothing is asked. -/
theorem wpAnyB_past {S' : World → Prop} : ∀ (fuel : Nat) (listed : Array Bool) (a : Act) (w : World), past bars listed = true → wpAnyB P ops Q bars S' fuel listed a w → wpAnyB P ops Q bars S fuel listed a w
  | 0, _, _, _, _, h => h
  | fuel + 1, _, _, _, hp, h => ⟨h.1, fun i hi => wpOp_mono (fun a' w' h' => ⟨fun hp' => (by rw [past_mono hp] at hp'; cases hp'), wpAnyB_past fuel _ a' w' (past_mono hp) h'.2⟩) (h.2 i hi)⟩

/-- An operation may be taken first if it yields its value in every world that meets T, and T holds as long as it has not come up. -/
theorem wpAnyB_first {T : World → Prop} {i : Nat} {oi : Oper} {v : Value} (hi : ops[i]? = some oi) (hsel : ∀ (j : Nat) (o : Oper) cs b, ops[j]? = some o → o.op ≠ .select cs b)
    (hQ : ∀ c a w, Q (.panic c) (a.put oi.dst v) w → Q (.panic c) a w) (hib : i ∉ bars)
    (hT : (∀ w, T w) ∨ ((∀ w, S w → T w) ∧ ∀ b ∈ bars, ∀ ob, ops[b]? = some ob → ∃ e ∈ ob.after, Region.binds .any e = true ∧ e.on = i)) :
    ∀ (fuel : Nat) (listed : Array Bool) (a : Act) (w : World), ((∀ w, T w) ∨ past bars listed = false) →
      (∀ j oj, ops[j]? = some oj → j ≠ i → listed.getD j true = false → (∀ e ∈ oj.after, Region.binds .any e = true → e.on ≠ i) → oi.apart ops oj = true) →
      i ∈ Region.ready .any ops listed → YieldsIf P ops T oi v a → T w → (past bars listed = false → S w) →
      wpAnyB P ops Q bars S fuel (listed.setIfInBounds i true) (a.put oi.dst v) w → wpAnyB P ops Q bars S (fuel + 1) listed a w := by
  intro fuel
  induction fuel with
  | zero =>
    intro listed a w hpl _ hr hy hTw hS H
    refine ⟨fun h => (by rw [h] at hr; cases hr), fun j hj => ?_⟩
    by_cases hji : j = i
    · subst hji; exact hy.wpOp hi hTw ⟨fun hp => hS (by rwa [past_set hib] at hp), H⟩
    · have := ready_mono hj hji
      rw [H.1] at this
      cases this
  | succ fuel ih =>
    intro listed a w hpl hfree hr hy hTw hS H
    refine ⟨fun h => (by rw [h] at hr; cases hr), fun j hj => ?_⟩
    by_cases hji : j = i
    · subst hji; exact hy.wpOp hi hTw ⟨fun hp => hS (by rwa [past_set hib] at hp), H⟩
    · have h1 := H.2 j (ready_mono hj hji)
      obtain ⟨hjun, oj, hoj, hall⟩ := mem_ready.1 hj
      have hnot : ∀ e ∈ oj.after, Region.binds .any e = true → e.on ≠ i := fun e he hb heq => by
        have h1 := hall e he hb
        have h0 := (mem_ready.1 hr).1
        rw [heq] at h1
        rcases Nat.lt_or_ge i listed.size with h' | h'
        · simp [h'] at h0 h1; rw [h0] at h1; cases h1
        · simp [Array.getElem?_eq_none h'] at h1
      have h2 := wpOp_putIf hoj (hfree j oj hoj hji hjun hnot) (fun cs b => hsel i oi cs b hi) (fun cs b => hsel j oj cs b hoj) hQ hy h1
      have hfree' : ∀ k ok, ops[k]? = some ok → k ≠ i → (listed.setIfInBounds j true).getD k true = false →
          (∀ e ∈ ok.after, Region.binds .any e = true → e.on ≠ i) → oi.apart ops ok = true := fun k ok hk hki hun hno => by
        refine hfree k ok hk hki ?_ hno
        by_cases hjk : j = k
        · subst hjk; exact hjun
        · rw [getD_set_ne true hjk] at hun; exact hun
      have hpe : past bars ((listed.setIfInBounds i true).setIfInBounds j true) = past bars (listed.setIfInBounds j true) := by
        rw [Array.setIfInBounds_comm _ _ (Ne.symm hji), past_set hib]
      refine wpOp_mono (fun a' w' h3 => ?_) h2
      have hS' : past bars (listed.setIfInBounds j true) = false → S w' := fun hp => h3.2.1 (by rw [hpe]; exact hp)
      have hboth : ((∀ w, T w) ∨ past bars (listed.setIfInBounds j true) = false) ∧ T w' := by
        rcases hT with hT | ⟨hST, hbar⟩
        · exact ⟨.inl hT, hT w'⟩
        · rcases hpl with hpl | hpl
          · exact ⟨.inl hpl, hpl w'⟩
          · have hjb : j ∉ bars := fun hb => by
              obtain ⟨e, he, hbi, hei⟩ := hbar j hb oj hoj
              exact hnot e he hbi hei
            have hp' : past bars (listed.setIfInBounds j true) = false := by rw [past_set hjb]; exact hpl
            exact ⟨.inr hp', hST _ (hS' hp')⟩
      refine ⟨hS', ih (listed.setIfInBounds j true) a' w' hboth.1 hfree' (ready_mono hr (Ne.symm hji)) h3.1 hboth.2 hS' ?_⟩
      rw [Array.setIfInBounds_comm _ _ hji]
      exact h3.2.2
end

/-- The rest of the region, from the world w on. -/
def wpB (P : Program) (ops : Array Oper) (Q : Exit → Act → World → Prop) (bars : List Nat) (R : World → World → Prop) (fuel : Nat) (listed : Array Bool) (a : Act) (w : World) : Prop :=
  wpAnyB P ops Q bars (R w) fuel listed a w

/-- Does operation b wait for operation i? -/
def waits (l : List Oper) (b i : Nat) : Bool := match l[b]? with | some o => o.after.any fun e => Region.binds .any e && e.on == i | none => true
def okOrdV (l : List Oper) (hs bars : List Nat) : List Nat → Array Bool → Bool
  | [], listed => (Region.ready .any l.toArray listed).isEmpty
  | i :: rest, listed => decide (i < l.length) && (Region.ready .any l.toArray listed).contains i &&
      (if hs.contains i then Region.ready .any l.toArray listed == [i] else Region.free .any l.toArray listed i && !bars.contains i && (past bars listed || bars.all fun b => waits l b i)) && okOrdV l hs bars rest (listed.setIfInBounds i true)
def wpV (P : Program) (l : List Oper) (hs bars : List Nat) (Q : Exit → Act → World → Prop) (R : World → World → Prop) (order : List Nat) (listed : Array Bool) (a : Act) (w : World) : Prop :=
  Region.noSelect l.toArray = true → okOrdV l hs bars order listed = true → wpB P l.toArray Q bars R order.length listed a w

section
variable {P : Program} {l : List Oper} {hs bars : List Nat} {Q : Exit → Act → World → Prop} {R : World → World → Prop} {rest : List Nat} {i : Nat} {o : Oper} {listed : Array Bool} {a : Act} {w : World}
theorem wpV_begin {id : Nat} (R : World → World → Prop) (hs bars order : List Nat) (hm : P.follows .mixedOrders = true) (hok : (Region.noSelect l.toArray && order.length == l.length && okOrdV l hs bars order (List.replicate l.length false).toArray) = true)
    (h : wpV P l hs bars Q R order (List.replicate l.length false).toArray a w.drew) : (Code.region id l.toArray true).wp P Q a w := by
  simp only [Bool.and_eq_true, beq_iff_eq] at hok
  refine wp_region_any hm (wpAny_of_B (bars := bars) (S := R w.drew) _ _ _ _ ?_)
  have h2 := h hok.1.1 hok.2
  have e : Array.replicate l.toArray.size false = (List.replicate l.length false).toArray := by simp
  rw [hok.1.2] at h2
  rw [e]
  simpa [wpB] using h2
theorem wpV_start (M : Moves R) {order : List Nat} (h : ∀ W, R w W → wpV P l hs bars Q R order listed a W) : wpV P l hs bars Q R order listed a w := h w (M.refl w)
theorem wpV_startK (M : Moves R) {order : List Nat} (h : ∀ W, Hid (W = w) → R w W → wpV P l hs bars Q R order listed a W) : wpV P l hs bars Q R order listed a w := h w rfl (M.refl w)
theorem wpV_done (h : Q .normal a w) : wpV P l hs bars Q R [] listed a w := fun _ hok => ⟨by simpa [okOrdV] using hok, h⟩
theorem okOrdV_cons (h : okOrdV l hs bars (i :: rest) listed = true) : i < l.length ∧ (Region.ready .any l.toArray listed).contains i = true ∧
    (hs.contains i = true → Region.ready .any l.toArray listed = [i]) ∧
    (hs.contains i = false → Region.free .any l.toArray listed i = true ∧ i ∉ bars ∧ (past bars listed = true ∨ ∀ b ∈ bars, waits l b i = true)) ∧ okOrdV l hs bars rest (listed.setIfInBounds i true) = true := by
  unfold okOrdV at h
  simp only [Bool.and_eq_true, decide_eq_true_eq] at h
  obtain ⟨⟨⟨h1, h2⟩, h3⟩, h4⟩ := h
  refine ⟨h1, h2, fun h6 => ?_, fun h6 => ?_, h4⟩
  · rw [if_pos h6] at h3
    simpa using h3
  · rw [if_neg (by rw [h6]; exact Bool.noConfusion)] at h3
    simp only [Bool.and_eq_true, Bool.not_eq_true', Bool.or_eq_true, List.all_eq_true] at h3
    refine ⟨h3.1.1, fun hm => ?_, h3.2⟩
    have := h3.1.2
    simp [hm] at this
theorem waits_spec {b : Nat} {ob : Oper} (hb : l.toArray[b]? = some ob) (h : waits l b i = true) : ∃ e ∈ ob.after, Region.binds .any e = true ∧ e.on = i := by
  unfold waits at h
  rw [List.getElem?_toArray] at hb
  rw [hb] at h
  simp only [Array.any_eq_true] at h
  obtain ⟨k, hk, he⟩ := h
  simp only [Bool.and_eq_true, beq_iff_eq] at he
  exact ⟨ob.after[k], Array.getElem_mem hk, he.1, he.2⟩
/-- What only reads. -/
theorem wpV_light {v : Value} (M : Moves R) (hh : hs.contains i = false) (ho : l[i]? = some o) (hw : Region.wanted o (yielded l.toArray a.tmps) = true) (hQ : ∀ c a w, Q (.panic c) (a.put o.dst v) w → Q (.panic c) a w)
    (hrun : ∀ w', (past bars listed = false → R w w') → (execOp a.eval o).run P w' = .ok (.value v) w') (h : wpV P l hs bars Q R rest (listed.setIfInBounds i true) (a.put o.dst v) w) : wpV P l hs bars Q R (i :: rest) listed a w := by
  intro hn hok
  obtain ⟨h1, h2, -, h4, h5⟩ := okOrdV_cons hok
  obtain ⟨f1, f2, f3⟩ := h4 hh
  have hoa : l.toArray[i]? = some o := by rw [List.getElem?_toArray]; exact ho
  cases hp : past bars listed
  · refine wpAnyB_first (T := R w) hoa (Region.noSelect_spec hn) hQ f2 (.inr ⟨fun _ h => h, fun b hb ob hob => waits_spec hob ?_⟩) _ _ _ _ (.inr hp) (Region.free_spec hoa f1) (by simpa using h2) (.inl ⟨hw, fun w' hR => hrun w' fun _ => hR⟩) (M.refl w) (fun _ => M.refl w) (h hn h5)
    rcases f3 with f3 | f3
    · rw [hp] at f3; cases f3
    · exact f3 b hb
  · exact wpAnyB_first (T := fun _ => True) hoa (Region.noSelect_spec hn) hQ f2 (.inl fun _ => trivial) _ _ _ _ (.inl fun _ => trivial) (Region.free_spec hoa f1) (by simpa using h2) (.inl ⟨hw, fun w' _ => hrun w' fun h => by rw [hp] at h; cases h⟩) trivial (fun _ => M.refl w) (h hn h5)
theorem wpV_skip (M : Moves R) (hh : hs.contains i = false) (ho : l[i]? = some o) (hw : Region.wanted o (yielded l.toArray a.tmps) = false) (hQ : ∀ c a w, Q (.panic c) (a.put o.dst undef) w → Q (.panic c) a w)
    (h : wpV P l hs bars Q R rest (listed.setIfInBounds i true) (a.put o.dst undef) w) : wpV P l hs bars Q R (i :: rest) listed a w := by
  intro hn hok
  obtain ⟨h1, h2, -, h4, h5⟩ := okOrdV_cons hok
  obtain ⟨f1, f2, f3⟩ := h4 hh
  have hoa : l.toArray[i]? = some o := by rw [List.getElem?_toArray]; exact ho
  exact wpAnyB_first (T := fun _ => True) hoa (Region.noSelect_spec hn) hQ f2 (.inl fun _ => trivial) _ _ _ _ (.inl fun _ => trivial) (Region.free_spec hoa f1) (by simpa using h2) (.inr ⟨hw, rfl⟩) trivial (fun _ => M.refl w) (h hn h5)
theorem wpV_heavy (M : Moves R) (hh : hs.contains i = true) (ho : l[i]? = some o) (hw : Region.wanted o (yielded l.toArray a.tmps) = true)
    (h : o.wp P a w (fun a' w' => (past bars (listed.setIfInBounds i true) = false → R w w') ∧ wpV P l hs bars Q R rest (listed.setIfInBounds i true) a' w') Q) : wpV P l hs bars Q R (i :: rest) listed a w := by
  intro hn hok
  obtain ⟨h1, h2, h3, -, h5⟩ := okOrdV_cons hok
  have hr := h3 hh
  refine ⟨fun h0 => absurd (hr ▸ h0) (by simp), fun j hj => ?_⟩
  rw [hr, List.mem_singleton] at hj
  subst hj
  unfold wpOp
  have hi : l.toArray[j]? = some o := by rw [List.getElem?_toArray]; exact ho
  simp only [hi, hw, if_true]
  refine .inl (Oper.wp_mono (fun a' w' h' => ⟨h'.1, ?_⟩) h)
  have hk := h'.2 hn h5
  cases hp : past bars (listed.setIfInBounds j true)
  · exact wpAnyB_sub (fun w2 h2 => M.trans _ _ _ (h'.1 hp) h2) _ _ _ _ hk
  · exact wpAnyB_past _ _ _ _ hp hk
theorem wpV_call {f : FuncId} {vals : Array Value} (M : Moves R) (hh : hs.contains i = true) (ho : l[i]? = some o) (hw : Region.wanted o (yielded l.toArray a.tmps) = true)
    (hrun : ∀ w, (execOp a.eval o).run P w = .ok (.enter f vals) w)
    (h : Calls P f vals w fun e w' => ∃ v, e = .returned v ∧ (past bars (listed.setIfInBounds i true) = false → R w w') ∧ wpV P l hs bars Q R rest (listed.setIfInBounds i true) (a.put o.dst v) w') : wpV P l hs bars Q R (i :: rest) listed a w := by
  refine wpV_heavy M hh ho hw ?_
  unfold Oper.wp
  rw [hrun w]
  refine Calls.mono h ?_
  rintro e w' ⟨v, rfl, h1, h2⟩
  exact ⟨h1, h2⟩
end

/-- Nothing below block N has changed, except block g. -/
def FromX (g N : Nat) (w w' : World) : Prop := w'.os = w.os ∧ w'.tape = w.tape ∧ w'.output = w.output ∧ w.heap.size ≤ w'.heap.size ∧ ∀ b, b < N → b ≠ g → w'.heap[b]? = w.heap[b]?
theorem fromX_moves (g N : Nat) : Moves (FromX g N) := ⟨fun _ => ⟨rfl, rfl, rfl, Nat.le_refl _, fun _ _ _ => rfl⟩, fun _ _ _ h k => ⟨k.1.trans h.1, k.2.1.trans h.2.1, k.2.2.1.trans h.2.2.1, Nat.le_trans h.2.2.2.1 k.2.2.2.1, fun b h1 h2 => (k.2.2.2.2 b h1 h2).trans (h.2.2.2.2 b h1 h2)⟩⟩
theorem fromX_cellsD {g N : Nat} {w w' : World} (h : FromX g N w.drew w') : ∀ b o, b < N → b ≠ g → w'.cell? ⟨b, o, none⟩ = w.cell? ⟨b, o, none⟩ := fun b o hb hne => by
  have := h.2.2.2.2 b hb hne
  simp only [World.cell?, this]
  rfl
theorem fromX_below {g N B : Nat} {w w' : World} (h : Below B w w') (hN : N ≤ B) : FromX g N w w' := ⟨h.os, h.tape, h.output, h.size, fun b hb _ => h.block b (by omega)⟩
theorem fromX_grown {g N : Nat} {w w' : World} (h : w.grownBy w' (some g)) (hN : N ≤ w.heap.size) : FromX g N w w' := ⟨h.os, h.tape, h.output, h.size, fun b hb hne => h.block b (by omega) (fun e => hne (Option.some.inj e))⟩
theorem fromX_row {g N : Nat} {w w' : World} {row : Option Nat} (h : w.grownBy w' row) (hN : N ≤ w.heap.size) (hr : ∀ k, row = some k → N ≤ k) : FromX g N w w' := ⟨h.os, h.tape, h.output, h.size, fun b hb _ => h.block b (by omega) (fun e => by have := hr b e.symm; omega)⟩
end Go.Proofs.Ytefnagiffllhbaa

/- OrdG -/
namespace Go.Proofs.Ytefnagiffllhbaa
open Go.RowKit

theorem below_on {B : Nat} {w0 w1 w2 : World} (h1 : Below B w0 w1) (h2 : Below w1.heap.size w1 w2) (hB : B ≤ w1.heap.size := by omega) : Below B w0 w2 := h1.trans (h2.mono hB)

theorem only_of_below {g : Nat} {w w' : World} (h : Below w.heap.size w w') : Only g w w' := grown_below (grown_refl' w _) h (Nat.le_refl _)
theorem cell_later {w w' : World} {p : Addr} {v : Value} (h : Below w.drew.heap.size w.drew w') (hc : w.cell? p = some v) : w'.cell? p = some v := (Below.cell h (World.block_lt_of_cell? _ _ hc)).trans hc
theorem boxes2 (w : World) (t1 t2 : TypeId) (cs1 cs2 : Array Value) :
    Blk ((w.alloc (.cells cs1 t1)).alloc (.cells cs2 t2)) w.heap.size t1 cs1 ∧ Blk ((w.alloc (.cells cs1 t1)).alloc (.cells cs2 t2)) (w.heap.size + 1) t2 cs2 ∧ Below w.heap.size w ((w.alloc (.cells cs1 t1)).alloc (.cells cs2 t2)) ∧ ((w.alloc (.cells cs1 t1)).alloc (.cells cs2 t2)).heap.size = w.heap.size + 2 := by
  refine ⟨(Blk.new w t1 cs1).alloc _, ?_, ((Below.refl _ w).alloc (Nat.le_refl _) _).alloc (by simp) _, by simp⟩
  have := Blk.new (w.alloc (.cells cs1 t1)) t2 cs2
  simpa using this
theorem boxes3 (w : World) (t1 t2 t3 : TypeId) (cs1 cs2 cs3 : Array Value) :
    Blk (((w.alloc (.cells cs1 t1)).alloc (.cells cs2 t2)).alloc (.cells cs3 t3)) w.heap.size t1 cs1 ∧ Blk (((w.alloc (.cells cs1 t1)).alloc (.cells cs2 t2)).alloc (.cells cs3 t3)) (w.heap.size + 1) t2 cs2 ∧ Blk (((w.alloc (.cells cs1 t1)).alloc (.cells cs2 t2)).alloc (.cells cs3 t3)) (w.heap.size + 1 + 1) t3 cs3 ∧
      Below w.heap.size w (((w.alloc (.cells cs1 t1)).alloc (.cells cs2 t2)).alloc (.cells cs3 t3)) ∧ (((w.alloc (.cells cs1 t1)).alloc (.cells cs2 t2)).alloc (.cells cs3 t3)).heap.size = w.heap.size + 3 := by
  obtain ⟨h1, h2, h3, h4⟩ := boxes2 w t1 t2 cs1 cs2
  refine ⟨h1.alloc _, h2.alloc _, ?_, h3.alloc h3.size _, by simp⟩
  have := Blk.new ((w.alloc (.cells cs1 t1)).alloc (.cells cs2 t2)) t3 cs3
  rwa [h4] at this
theorem set3_blk {w : World} {g : Nat} {t : TypeId} {y0 y1 y2 : Value} (k : Blk w g t #[y0, y1, y2]) (x0 x1 x2 : Value) : Blk (((w.setCell ⟨g, 0, none⟩ x0).setCell ⟨g, 1, none⟩ x1).setCell ⟨g, 2, none⟩ x2) g t #[x0, x1, x2] := by
  have h := (((k.set_ 0 x0).set_ 1 x1).set_ 2 x2)
  simpa using h
theorem set3_grown {w : World} {g : Nat} (x0 x1 x2 : Value) : w.grownBy (((w.setCell ⟨g, 0, none⟩ x0).setCell ⟨g, 1, none⟩ x1).setCell ⟨g, 2, none⟩ x2) (some g) := by
  iterate 3 refine grown_setCell' ?_ (.inl rfl) _
  exact grown_refl' w _
theorem below_of_only {g B : Nat} {a w : World} (h : a.grownBy w (some g)) (hB : B ≤ a.heap.size) (hg : B ≤ g) : Below B a w := below_of_grown h B hB fun _ e => by have := Option.some.inj e; omega

section
variable {P : Program} {ops : Array Oper} {Q : Exit → Act → World → Prop} {R : World → World → Prop}

/-- From the world W on, wherever R may lead: the operation yields v, and moves the world by R. -/
def PureRun (P : Program) (R : World → World → Prop) (W : World) (ρ : Operand → Value) (o : Oper) (v : Value) : Prop :=
  (∀ w, R W w → (execOp ρ o).run P w = .ok (.value v) w) ∨ ∃ f vals, (∀ w, (execOp ρ o).run P w = .ok (.enter f vals) w) ∧ ∀ w, R W w → Calls P f vals w fun e w' => e = .returned v ∧ R w w'
def PureAt (P : Program) (ops : Array Oper) (R : World → World → Prop) (W : World) (o : Oper) (v : Value) (a : Act) : Prop :=
  (Region.wanted o (yielded ops a.tmps) = true ∧ PureRun P R W a.eval o v) ∨ (Region.wanted o (yielded ops a.tmps) = false ∧ v = undef)
theorem PureRun.later (M : Moves R) {W W' : World} {ρ : Operand → Value} {o : Oper} {v : Value} (h : PureRun P R W ρ o v) (hR : R W W') : PureRun P R W' ρ o v := by
  rcases h with h | ⟨f, vals, h1, h2⟩
  · exact .inl fun w hw => h w (M.trans _ _ _ hR hw)
  · exact .inr ⟨f, vals, h1, fun w hw => h2 w (M.trans _ _ _ hR hw)⟩
theorem PureAt.later (M : Moves R) {W W' : World} {o : Oper} {v : Value} {a : Act} (h : PureAt P ops R W o v a) (hR : R W W') : PureAt P ops R W' o v a :=
  h.imp (fun h => ⟨h.1, h.2.later M hR⟩) id
theorem PureAt.same {W : World} {o : Oper} {v : Value} {a a' : Act} (h : PureAt P ops R W o v a) (he : execOp a'.eval o = execOp a.eval o) (hw : Region.wanted o (yielded ops a'.tmps) = Region.wanted o (yielded ops a.tmps)) : PureAt P ops R W o v a' := by
  unfold PureAt PureRun at *
  rw [he, hw]
  exact h
theorem PureAt.op {W w : World} {i : Nat} {o : Oper} {v : Value} {a : Act} {K : Act → World → Prop} (M : Moves R) (hi : ops[i]? = some o) (h : PureAt P ops R W o v a) (hR : R W w) (hK : ∀ w', R w w' → K (a.put o.dst v) w') : wpOp P ops Q i K a w := by
  unfold wpOp
  simp only [hi]
  rcases h with ⟨hw, h | ⟨f, vals, h1, h2⟩⟩ | ⟨hw, rfl⟩
  · simp only [hw, if_true, Oper.wp, h w hR, Oper.upon]
    exact .inl (hK w (M.refl w))
  · simp only [hw, if_true, Oper.wp, h1 w, Oper.upon]
    refine .inl (Calls.mono (h2 w hR) ?_)
    rintro e w' ⟨rfl, h3⟩
    exact hK w' h3
  · simp only [hw, Bool.false_eq_true, if_false]
    exact hK w (M.refl w)

/-- One operation apart from another: what stays of a state in which the other's value is known. -/
theorem wpOp_apart {Pi : Act → Prop} {j : Nat} {oi oj : Oper} {v : Value} (hj : ops[j]? = some oj) (hap : oi.apart ops oj = true)
    (hsi : ∀ cs b, oi.op ≠ .select cs b) (hsj : ∀ cs b, oj.op ≠ .select cs b)
    (hPi : ∀ a a', Pi a → execOp a'.eval oi = execOp a.eval oi → Region.wanted oi (yielded ops a'.tmps) = Region.wanted oi (yielded ops a.tmps) → Pi a')
    (hQ : ∀ c a w, Q (.panic c) (a.put oi.dst v) w → Q (.panic c) a w) {K : Act → World → Prop} {a : Act} {w : World}
    (hy : Pi a) (h : wpOp P ops Q j K (a.put oi.dst v) w) : wpOp P ops Q j (fun a' w' => Pi a' ∧ K (a'.put oi.dst v) w') a w := by
  obtain ⟨h1, h2, h3⟩ := Oper.apart_spec hap
  have keep : ∀ u, Pi (a.put oj.dst u) := fun u => hPi a _ hy (execOp_put oi hsi a oj.dst u h3) (wanted_put oi a oj.dst u h3)
  unfold wpOp at *
  simp only [hj] at *
  rw [wanted_put oj a oi.dst v h1] at h
  split
  · rename_i hw
    simp only [hw, if_true] at h
    rcases h with h | ⟨hasks, hlets⟩
    case inr => exact .inr ⟨by unfold Oper.asks at *; rw [execOp_put oj hsj a oi.dst v h1] at hasks; exact hasks, hlets⟩
    refine .inl ?_
    unfold Oper.wp at *
    rw [execOp_put oj hsj a oi.dst v h1] at h
    generalize (execOp a.eval oj).run P w = r at *
    rcases r with ⟨n, w'⟩ | ⟨x, w'⟩
    · cases n <;> simp only [Oper.upon] at h ⊢
      case value u => exact ⟨keep u, by rw [← Act.put_comm a v u h2]; exact h⟩
      case skip => exact ⟨keep _, by rw [← Act.put_comm a v undef h2]; exact h⟩
      case defer d =>
        refine ⟨hPi _ _ (hPi a { a with defers := d :: a.defers } hy rfl rfl) (execOp_put oi hsi _ oj.dst _ h3) (wanted_put oi _ oj.dst _ h3), ?_⟩
        rw [← Act.put_comm _ v undef h2, ← Act.put_defers]
        exact h
      case enter f args =>
        refine Calls.mono h fun e w'' he => ?_
        rcases e with u | c | _
        · exact ⟨keep u, by rw [← Act.put_comm a v u h2]; exact he⟩
        · exact hQ _ _ _ he
        · exact he
      case row row args => exact Rows.mono h fun u w'' he => ⟨keep u, by rw [← Act.put_comm a v u h2]; exact he⟩
    · cases x <;> simp only [Oper.upon] at h ⊢
      case panic u => exact hQ _ _ _ h
  · rename_i hw
    simp only [hw] at h
    exact ⟨keep _, by rw [← Act.put_comm a v undef h2]; exact h⟩

/-- What may still happen before the next operation: R, until a bar has come up. -/
def May (bars : List Nat) (R : World → World → Prop) (listed : Array Bool) (w w1 : World) : Prop := if past bars listed = true then w1 = w else R w w1
theorem May.refl (M : Moves R) (bars : List Nat) (listed : Array Bool) (w : World) : May bars R listed w w := by
  unfold May
  split
  · rfl
  · exact M.refl w
theorem May.of {bars : List Nat} {listed : Array Bool} {w w1 : World} (hp : past bars listed = false) (h : R w w1) : May bars R listed w w1 := by
  unfold May
  rw [if_neg (by rw [hp]; exact Bool.noConfusion)]
  exact h
theorem May.out {bars : List Nat} {listed : Array Bool} {w w1 : World} (hp : past bars listed = false) (h : May bars R listed w w1) : R w w1 := by
  unfold May at h
  rwa [if_neg (by rw [hp]; exact Bool.noConfusion)] at h
theorem May.eq {bars : List Nat} {listed : Array Bool} {w w1 : World} (hp : past bars listed = true) (h : May bars R listed w w1) : w1 = w := by
  unfold May at h
  rwa [if_pos hp] at h

/-- Whatever order is picked, and whatever R still does in between. -/
def wpG (P : Program) (ops : Array Oper) (Q : Exit → Act → World → Prop) (bars : List Nat) (R : World → World → Prop) : Nat → Array Bool → Act → World → Prop
  | 0, listed, a, w => Region.ready .any ops listed = [] ∧ ∀ w1, May bars R listed w w1 → Q .normal a w1
  | fuel + 1, listed, a, w => ∀ w1, May bars R listed w w1 → (Region.ready .any ops listed = [] → Q .normal a w1) ∧
      ∀ i ∈ Region.ready .any ops listed, wpOp P ops Q i (fun a' w' => (past bars (listed.setIfInBounds i true) = false → R w1 w') ∧ wpG P ops Q bars R fuel (listed.setIfInBounds i true) a' w') a w1
theorem wpG_later (M : Moves R) {bars : List Nat} : ∀ (fuel : Nat) (listed : Array Bool) (a : Act) (w w2 : World), past bars listed = false → R w w2 → wpG P ops Q bars R fuel listed a w → wpG P ops Q bars R fuel listed a w2
  | 0, _, _, _, _, hp, hR, h => ⟨h.1, fun w1 h1 => h.2 w1 (.of hp (M.trans _ _ _ hR (h1.out hp)))⟩
  | _ + 1, _, _, _, _, hp, hR, h => fun w1 h1 => h w1 (.of hp (M.trans _ _ _ hR (h1.out hp)))
theorem wpAny_of_G (M : Moves R) {bars : List Nat} : ∀ (fuel : Nat) (listed : Array Bool) (a : Act) (w : World), wpG P ops Q bars R fuel listed a w → wpAny P .any ops Q fuel listed a w
  | 0, _, _, w, h => ⟨h.1, h.2 w (.refl M _ _ w)⟩
  | fuel + 1, _, _, w, h => ⟨(h w (.refl M _ _ w)).1, fun i hi => wpOp_mono (fun a' w' h' => wpAny_of_G M fuel _ a' w' h'.2) ((h w (.refl M _ _ w)).2 i hi)⟩

/-- Before a bar: a read, or a call whose value is known, is taken first. -/
theorem wpG_first (M : Moves R) {bars : List Nat} {i : Nat} {oi : Oper} {v : Value} (hi : ops[i]? = some oi) (hsel : ∀ (j : Nat) (o : Oper) cs b, ops[j]? = some o → o.op ≠ .select cs b)
    (hQ : ∀ c a w, Q (.panic c) (a.put oi.dst v) w → Q (.panic c) a w) (hib : i ∉ bars) (hbar : ∀ b ∈ bars, ∀ ob, ops[b]? = some ob → ∃ e ∈ ob.after, Region.binds .any e = true ∧ e.on = i) :
    ∀ (fuel : Nat) (listed : Array Bool) (a : Act) (w : World), past bars listed = false →
      (∀ j oj, ops[j]? = some oj → j ≠ i → listed.getD j true = false → (∀ e ∈ oj.after, Region.binds .any e = true → e.on ≠ i) → oi.apart ops oj = true) →
      i ∈ Region.ready .any ops listed → PureAt P ops R w oi v a → wpG P ops Q bars R fuel (listed.setIfInBounds i true) (a.put oi.dst v) w → wpG P ops Q bars R (fuel + 1) listed a w := by
  intro fuel
  induction fuel with
  | zero =>
    intro listed a w hp _ hr hy H w1 hw1
    have hp' : past bars (listed.setIfInBounds i true) = false := by rw [past_set hib]; exact hp
    have hR1 := hw1.out hp
    refine ⟨fun h => (by rw [h] at hr; cases hr), fun j hj => ?_⟩
    by_cases hji : j = i
    · subst hji
      exact hy.op M hi hR1 fun w' h' => ⟨fun _ => h', wpG_later M _ _ _ _ _ hp' (M.trans _ _ _ hR1 h') H⟩
    · have := ready_mono hj hji
      rw [H.1] at this
      cases this
  | succ fuel ih =>
    intro listed a w hp hfree hr hy H w1 hw1
    have hp' : past bars (listed.setIfInBounds i true) = false := by rw [past_set hib]; exact hp
    have hR1 := hw1.out hp
    refine ⟨fun h => (by rw [h] at hr; cases hr), fun j hj => ?_⟩
    by_cases hji : j = i
    · subst hji
      exact hy.op M hi hR1 fun w' h' => ⟨fun _ => h', wpG_later M _ _ _ _ _ hp' (M.trans _ _ _ hR1 h') H⟩
    · have h1 := (H w1 (.of hp' hR1)).2 j (ready_mono hj hji)
      obtain ⟨hjun, oj, hoj, hall⟩ := mem_ready.1 hj
      have hnot : ∀ e ∈ oj.after, Region.binds .any e = true → e.on ≠ i := fun e he hb heq => by
        have h1 := hall e he hb
        have h0 := (mem_ready.1 hr).1
        rw [heq] at h1
        rcases Nat.lt_or_ge i listed.size with h' | h'
        · simp [h'] at h0 h1; rw [h0] at h1; cases h1
        · simp [Array.getElem?_eq_none h'] at h1
      have hjb : j ∉ bars := fun hb => by
        obtain ⟨e, he, hbi, hei⟩ := hbar j hb oj hoj
        exact hnot e he hbi hei
      have hpj : past bars (listed.setIfInBounds j true) = false := by rw [past_set hjb]; exact hp
      have hpij : past bars ((listed.setIfInBounds i true).setIfInBounds j true) = false := by rw [past_set hjb]; exact hp'
      have h2 := wpOp_apart (Pi := PureAt P ops R w1 oi v) hoj (hfree j oj hoj hji hjun hnot) (fun cs b => hsel i oi cs b hi) (fun cs b => hsel j oj cs b hoj) (fun _ _ h he hw => h.same he hw) hQ (hy.later M hR1) h1
      have hfree' : ∀ k ok, ops[k]? = some ok → k ≠ i → (listed.setIfInBounds j true).getD k true = false →
          (∀ e ∈ ok.after, Region.binds .any e = true → e.on ≠ i) → oi.apart ops ok = true := fun k ok hk hki hun hno => by
        refine hfree k ok hk hki ?_ hno
        by_cases hjk : j = k
        · subst hjk; exact hjun
        · rw [getD_set_ne true hjk] at hun; exact hun
      refine wpOp_mono (fun a' w' h3 => ?_) h2
      have hRw := h3.2.1 hpij
      refine ⟨fun _ => hRw, ih (listed.setIfInBounds j true) a' w' hpj hfree' (ready_mono hr (Ne.symm hji)) (h3.1.later M hRw) ?_⟩
      rw [Array.setIfInBounds_comm _ _ hji]
      exact h3.2.2
/-- Behind a bar: what yields its value in every world. -/
theorem wpG_firstP {bars : List Nat} {i : Nat} {oi : Oper} {v : Value} (hi : ops[i]? = some oi) (hsel : ∀ (j : Nat) (o : Oper) cs b, ops[j]? = some o → o.op ≠ .select cs b)
    (hQ : ∀ c a w, Q (.panic c) (a.put oi.dst v) w → Q (.panic c) a w) :
    ∀ (fuel : Nat) (listed : Array Bool) (a : Act) (w : World), past bars listed = true →
      (∀ j oj, ops[j]? = some oj → j ≠ i → listed.getD j true = false → (∀ e ∈ oj.after, Region.binds .any e = true → e.on ≠ i) → oi.apart ops oj = true) →
      i ∈ Region.ready .any ops listed → YieldsIf P ops (fun _ => True) oi v a → wpG P ops Q bars R fuel (listed.setIfInBounds i true) (a.put oi.dst v) w → wpG P ops Q bars R (fuel + 1) listed a w := by
  intro fuel
  have hno : ∀ {listed : Array Bool} {j : Nat} {w w' : World}, past bars listed = true → past bars (listed.setIfInBounds j true) = false → R w w' := fun h h' => by
    rw [past_mono h] at h'
    cases h'
  induction fuel with
  | zero =>
    intro listed a w hp _ hr hy H w1 hw1
    obtain rfl := hw1.eq hp
    refine ⟨fun h => (by rw [h] at hr; cases hr), fun j hj => ?_⟩
    by_cases hji : j = i
    · subst hji
      exact hy.wpOp hi trivial ⟨hno hp, H⟩
    · have := ready_mono hj hji
      rw [H.1] at this
      cases this
  | succ fuel ih =>
    intro listed a w hp hfree hr hy H w1 hw1
    obtain rfl := hw1.eq hp
    refine ⟨fun h => (by rw [h] at hr; cases hr), fun j hj => ?_⟩
    by_cases hji : j = i
    · subst hji
      exact hy.wpOp hi trivial ⟨hno hp, H⟩
    · have h1 := (H w1 (by unfold May; rw [if_pos (past_mono hp)])).2 j (ready_mono hj hji)
      obtain ⟨hjun, oj, hoj, hall⟩ := mem_ready.1 hj
      have hnot : ∀ e ∈ oj.after, Region.binds .any e = true → e.on ≠ i := fun e he hb heq => by
        have h1 := hall e he hb
        have h0 := (mem_ready.1 hr).1
        rw [heq] at h1
        rcases Nat.lt_or_ge i listed.size with h' | h'
        · simp [h'] at h0 h1; rw [h0] at h1; cases h1
        · simp [Array.getElem?_eq_none h'] at h1
      have h2 := wpOp_putIf hoj (hfree j oj hoj hji hjun hnot) (fun cs b => hsel i oi cs b hi) (fun cs b => hsel j oj cs b hoj) hQ hy h1
      have hfree' : ∀ k ok, ops[k]? = some ok → k ≠ i → (listed.setIfInBounds j true).getD k true = false →
          (∀ e ∈ ok.after, Region.binds .any e = true → e.on ≠ i) → oi.apart ops ok = true := fun k ok hk hki hun hno => by
        refine hfree k ok hk hki ?_ hno
        by_cases hjk : j = k
        · subst hjk; exact hjun
        · rw [getD_set_ne true hjk] at hun; exact hun
      refine wpOp_mono (fun a' w' h3 => ⟨hno hp, ih (listed.setIfInBounds j true) a' w' (past_mono hp) hfree' (ready_mono hr (Ne.symm hji)) h3.1 ?_⟩) h2
      rw [Array.setIfInBounds_comm _ _ hji]
      exact h3.2.2
end

def wpGO (P : Program) (l : List Oper) (hs bars : List Nat) (Q : Exit → Act → World → Prop) (R : World → World → Prop) (order : List Nat) (listed : Array Bool) (a : Act) (w : World) : Prop :=
  Region.noSelect l.toArray = true → okOrdV l hs bars order listed = true → wpG P l.toArray Q bars R order.length listed a w

section
variable {P : Program} {l : List Oper} {hs bars : List Nat} {Q : Exit → Act → World → Prop} {R : World → World → Prop} {rest : List Nat} {i : Nat} {o : Oper} {listed : Array Bool} {a : Act} {w : World}
theorem wpGO_begin {id : Nat} (R : World → World → Prop) (M : Moves R) (hs bars order : List Nat) (hm : P.follows .mixedOrders = true) (hok : (Region.noSelect l.toArray && order.length == l.length && okOrdV l hs bars order (List.replicate l.length false).toArray) = true)
    (h : wpGO P l hs bars Q R order (List.replicate l.length false).toArray a w.drew) : (Code.region id l.toArray true).wp P Q a w := by
  simp only [Bool.and_eq_true, beq_iff_eq] at hok
  refine wp_region_any hm (wpAny_of_G (R := R) (bars := bars) M _ _ _ _ ?_)
  have h2 := h hok.1.1 hok.2
  have e : Array.replicate l.toArray.size false = (List.replicate l.length false).toArray := by simp
  rw [hok.1.2] at h2
  rw [e]
  simpa using h2
theorem wpGO_start (M : Moves R) {order : List Nat} (h : ∀ W, R w W → wpGO P l hs bars Q R order listed a W) : wpGO P l hs bars Q R order listed a w := h w (M.refl w)
theorem wpGO_startK (M : Moves R) {order : List Nat} (h : ∀ W, Hid (W = w) → R w W → wpGO P l hs bars Q R order listed a W) : wpGO P l hs bars Q R order listed a w := h w rfl (M.refl w)
theorem wpGO_done (hp : past bars listed = false) (h : ∀ w1, R w w1 → Q .normal a w1) : wpGO P l hs bars Q R [] listed a w := fun _ hok => ⟨by simpa [okOrdV] using hok, fun w1 h1 => h w1 (h1.out hp)⟩
theorem wpGO_doneP (hp : past bars listed = true) (h : Q .normal a w) : wpGO P l hs bars Q R [] listed a w := fun _ hok => ⟨by simpa [okOrdV] using hok, fun w1 h1 => by rw [h1.eq hp]; exact h⟩
theorem wpGO_pure {v : Value} (M : Moves R) (hh : hs.contains i = false) (hp : past bars listed = false) (ho : l[i]? = some o) (hQ : ∀ c a w, Q (.panic c) (a.put o.dst v) w → Q (.panic c) a w)
    (hpu : PureAt P l.toArray R w o v a) (h : wpGO P l hs bars Q R rest (listed.setIfInBounds i true) (a.put o.dst v) w) : wpGO P l hs bars Q R (i :: rest) listed a w := by
  intro hn hok
  obtain ⟨h1, h2, -, h4, h5⟩ := okOrdV_cons hok
  obtain ⟨f1, f2, f3⟩ := h4 hh
  have hoa : l.toArray[i]? = some o := by rw [List.getElem?_toArray]; exact ho
  refine wpG_first M hoa (Region.noSelect_spec hn) hQ f2 (fun b hb ob hob => waits_spec hob ?_) _ _ _ _ hp (Region.free_spec hoa f1) (by simpa using h2) hpu (h hn h5)
  rcases f3 with f3 | f3
  · rw [hp] at f3; cases f3
  · exact f3 b hb
theorem wpGO_light {v : Value} (M : Moves R) (hh : hs.contains i = false) (hp : past bars listed = false) (ho : l[i]? = some o) (hw : Region.wanted o (yielded l.toArray a.tmps) = true) (hQ : ∀ c a w, Q (.panic c) (a.put o.dst v) w → Q (.panic c) a w)
    (hrun : ∀ w', R w w' → (execOp a.eval o).run P w' = .ok (.value v) w') (h : wpGO P l hs bars Q R rest (listed.setIfInBounds i true) (a.put o.dst v) w) : wpGO P l hs bars Q R (i :: rest) listed a w :=
  wpGO_pure M hh hp ho hQ (.inl ⟨hw, .inl hrun⟩) h
theorem wpGO_skip (M : Moves R) (hh : hs.contains i = false) (hp : past bars listed = false) (ho : l[i]? = some o) (hw : Region.wanted o (yielded l.toArray a.tmps) = false) (hQ : ∀ c a w, Q (.panic c) (a.put o.dst undef) w → Q (.panic c) a w)
    (h : wpGO P l hs bars Q R rest (listed.setIfInBounds i true) (a.put o.dst undef) w) : wpGO P l hs bars Q R (i :: rest) listed a w :=
  wpGO_pure M hh hp ho hQ (.inr ⟨hw, rfl⟩) h
/-- A call whose value is known. -/
theorem wpGO_call {v : Value} {f : FuncId} {vals : Array Value} (M : Moves R) (hh : hs.contains i = false) (hp : past bars listed = false) (ho : l[i]? = some o) (hw : Region.wanted o (yielded l.toArray a.tmps) = true) (hQ : ∀ c a w, Q (.panic c) (a.put o.dst v) w → Q (.panic c) a w)
    (hrun : ∀ w, (execOp a.eval o).run P w = .ok (.enter f vals) w) (hc : ∀ w', R w w' → Calls P f vals w' fun e w'' => e = .returned v ∧ R w' w'')
    (h : wpGO P l hs bars Q R rest (listed.setIfInBounds i true) (a.put o.dst v) w) : wpGO P l hs bars Q R (i :: rest) listed a w :=
  wpGO_pure M hh hp ho hQ (.inl ⟨hw, .inr ⟨f, vals, hrun, hc⟩⟩) h
/-- Behind a bar: what needs no memory. -/
theorem wpGO_free {v : Value} (hh : hs.contains i = false) (hp : past bars listed = true) (ho : l[i]? = some o) (hw : Region.wanted o (yielded l.toArray a.tmps) = true) (hQ : ∀ c a w, Q (.panic c) (a.put o.dst v) w → Q (.panic c) a w)
    (hrun : ∀ w', (execOp a.eval o).run P w' = .ok (.value v) w') (h : wpGO P l hs bars Q R rest (listed.setIfInBounds i true) (a.put o.dst v) w) : wpGO P l hs bars Q R (i :: rest) listed a w := by
  intro hn hok
  obtain ⟨h1, h2, -, h4, h5⟩ := okOrdV_cons hok
  have hoa : l.toArray[i]? = some o := by rw [List.getElem?_toArray]; exact ho
  exact wpG_firstP hoa (Region.noSelect_spec hn) hQ _ _ _ _ hp (Region.free_spec hoa (h4 hh).1) (by simpa using h2) (.inl ⟨hw, fun w' _ => hrun w'⟩) (h hn h5)
theorem wpGO_heavy (hh : hs.contains i = true) (hp : past bars listed = false) (ho : l[i]? = some o) (hw : Region.wanted o (yielded l.toArray a.tmps) = true)
    (h : ∀ w1, R w w1 → o.wp P a w1 (fun a' w' => (past bars (listed.setIfInBounds i true) = false → R w1 w') ∧ wpGO P l hs bars Q R rest (listed.setIfInBounds i true) a' w') Q) : wpGO P l hs bars Q R (i :: rest) listed a w := by
  intro hn hok
  obtain ⟨h1, -, h3, -, h5⟩ := okOrdV_cons hok
  have hr := h3 hh
  intro w1 hw1
  refine ⟨fun h0 => absurd (hr ▸ h0) (by simp), fun j hj => ?_⟩
  rw [hr, List.mem_singleton] at hj
  subst hj
  unfold wpOp
  have hi : l.toArray[j]? = some o := by rw [List.getElem?_toArray]; exact ho
  simp only [hi, hw, if_true]
  exact .inl (Oper.wp_mono (fun a' w' h' => ⟨h'.1, h'.2 hn h5⟩) (h w1 (hw1.out hp)))
end
end Go.Proofs.Ytefnagiffllhbaa

/- FldA -/
namespace Go.Proofs.Ytefnagiffllhbaa
open Go.RowKit

def ren25 : Go.Shelf.Ren := ⟨fun | 25 => 115 | n => n, fun | 22 => 22 | n => n, fun n => n⟩
theorem lays25 : Go.Proofs.Lays7.n25 Try.prog ren25 := { mixed := by kernel_rfl, f25 := by kernel_rfl, t22 := by kernel_rfl, a22 := fun _ => by kernel_rfl, z22 := fun _ => by kernel_rfl, v22 := fun _ => by kernel_rfl, i22 := by kernel_rfl }
theorem run_add64 (x y : Nat) (w : World) : (callFunc 115 #[.int .u64 (x : Int), .int .u64 (y : Int), .int .u64 0]).run Try.prog w =
    .ok (.value (.tuple #[.int .u64 (((x + y) % 18446744073709551616 : Nat) : Int), .int .u64 (((x + y) / 18446744073709551616 : Nat) : Int)])) w :=
  Any7.bits_Add64 lays25 x y 0 (by omega) w

/-- The value of a field. -/
def fv (p : Nat) : Value := .agg #[.int .u64 (p : Int)]

set_option maxRecDepth 100000 in
set_option maxHeartbeats 1000000 in
theorem fValid_any (p : Nat) (w : World) (hp : okP p = true) :
    Calls Try.prog 69 #[fv p] w fun e w' => e = .returned (.bool true) ∧ Below w.heap.size w w' := by
  unfold fv
  rcases okP_cases hp with rfl | rfl | rfl | rfl | rfl | rfl | rfl <;>
  · go_enter Try.func69, Try.ntmps69
    go_wp2_with fail
    go_ret
    exact ⟨rfl, (Below.refl _ _).alloc (Nat.le_refl _) _⟩

set_option maxRecDepth 100000 in
set_option maxHeartbeats 1000000 in
theorem fNumbers_any (p : Nat) (w : World) (hp : okP p = true) :
    Calls Try.prog 96 #[fv p] w fun e w' => e = .returned (.tuple #[.int .u64 ((rowOf p).1 : Int), .int .i64 ((rowOf p).2.1 : Int), .int .u64 ((rowOf p).2.2 : Int)]) ∧ Below w.heap.size w w' := by
  unfold fv
  rcases okP_cases hp with rfl | rfl | rfl | rfl | rfl | rfl | rfl <;>
  · go_enter Try.func96, Try.ntmps96
    go_wp2_with fail
    go_ret3
    exact ⟨rfl, (Below.refl _ _).alloc (Nat.le_refl _) _⟩

set_option maxRecDepth 100000 in
set_option maxHeartbeats 400000 in
theorem fGen_any (p : Nat) (w : World) (hp : okP p = true) :
    Calls Try.prog 59 #[fv p] w fun e w' => e = .returned (.int .u64 ((rowOf p).1 : Int)) ∧ Below w.heap.size w w' := by
  have H := Lib.hid (fun w => fNumbers_any p w hp)
  clear hp
  unfold fv at *
  generalize rowOf p = r at *
  obtain ⟨a, b, c⟩ := r
  go_enter Try.func59, Try.ntmps59
  go_wp2_with (go_at_call 96; refine (H.out _).mono ?_; rintro e w1 ⟨rfl, hb⟩)
  go_ret
  exact ⟨rfl, below_chain ((Below.refl _ _).alloc (Nat.le_refl _) _) hb⟩

set_option maxRecDepth 100000 in
set_option maxHeartbeats 400000 in
theorem fExp_any (p : Nat) (w : World) (hp : okP p = true) :
    Calls Try.prog 109 #[fv p] w fun e w' => e = .returned (.int .u64 ((rowOf p).2.2 : Int)) ∧ Below w.heap.size w w' := by
  have H := Lib.hid (fun w => fNumbers_any p w hp)
  clear hp
  unfold fv at *
  generalize rowOf p = r at *
  obtain ⟨a, b, c⟩ := r
  go_enter Try.func109, Try.ntmps109
  go_wp2_with (go_at_call 96; refine (H.out _).mono ?_; rintro e w1 ⟨rfl, hb⟩)
  go_ret
  exact ⟨rfl, below_chain ((Below.refl _ _).alloc (Nat.le_refl _) _) hb⟩

set_option maxRecDepth 100000 in
set_option maxHeartbeats 400000 in
theorem fReduced_any (p n : Nat) (w : World) (hp : 0 < p) :
    Calls Try.prog 85 #[fv p, .int .u64 n] w fun e w' => e = .returned (.int .u64 ((n % p : Nat) : Int)) ∧ Below w.heap.size w w' := by
  unfold fv
  have p1 : (0 : Int) < (p : Int) := by omega
  have e1 : (n : Int) % (p : Int) = ((n % p : Nat) : Int) := rfl
  have e2 : (n : Int).tmod (p : Int) = ((n % p : Nat) : Int) := rfl
  by_cases h : p ≤ n
  · have g : (p : Int) ≤ (n : Int) := by omega
    revert e1 e2
    generalize n % p = r
    intro e1 e2
    go_enter Try.func85, Try.ntmps85
    go_wp2_with fail
    go_ret
    exact ⟨rfl, (Below.refl _ _).alloc (Nat.le_refl _) _⟩
  · have g : ¬ ((p : Int) ≤ (n : Int)) := by omega
    have HE := Lib.hid (Nat.mod_eq_of_lt (show n < p by omega))
    clear e1 e2
    rw [HE.out]
    go_enter Try.func85, Try.ntmps85
    go_wp2_with fail
    go_ret
    exact ⟨rfl, (Below.refl _ _).alloc (Nat.le_refl _) _⟩

set_option maxRecDepth 100000 in
set_option maxHeartbeats 400000 in
theorem fmul_any (p a b : Nat) (w : World) (hp : okP p = true) (ha : a < p) (hb : b < p) :
    Calls Try.prog 103 #[fv p, .int .u64 a, .int .u64 b] w fun e w' => e = .returned (.int .u64 ((a * b % p : Nat) : Int)) ∧ Below w.heap.size w w' := by
  obtain ⟨h1, h2⟩ := okP_lt hp
  unfold fv
  have hhi : a * b / 18446744073709551616 < p := by
    have : a * b ≤ p * 18446744073709551615 := Nat.mul_le_mul (by omega) (by omega)
    rw [Nat.div_lt_iff_lt_mul (by omega)]
    omega
  have hlo : a * b % 18446744073709551616 < 18446744073709551616 := Nat.mod_lt _ (by omega)
  have hXY := Nat.div_add_mod (a * b) 18446744073709551616
  rw [Nat.mul_comm 18446744073709551616] at hXY
  have HM := Lib.hid (fun w => mul64_any a b w (by omega) (by omega))
  revert hhi hlo hXY HM
  generalize a * b / 18446744073709551616 = hi
  generalize a * b % 18446744073709551616 = lo
  intro hhi hlo hXY HM
  have HD := Lib.hid (fun w => div64_any hi lo p w hhi hlo h2)
  rw [hXY] at HD
  clear h1 h2 ha hb hhi hlo hXY hp
  revert HD
  generalize a * b / p = q
  generalize a * b % p = r
  intro HD
  go_enter Try.func103, Try.ntmps103
  go_wp2_with fail
  refine (HM.out _).mono ?_
  rintro e w1 ⟨rfl, rfl⟩
  go_wp2_with fail
  refine (HD.out _).mono ?_
  rintro e w3 ⟨rfl, k, rfl⟩
  go_wp2
  go_ret
  exact ⟨rfl, below_drewN' ((Below.refl _ _).alloc (Nat.le_refl _) _) _⟩

set_option maxRecDepth 100000 in
set_option maxHeartbeats 400000 in
theorem fadd_any (p a b : Nat) (w : World) (hp : okP p = true) (ha : a < p) (hb : b < p) :
    Calls Try.prog 104 #[fv p, .int .u64 a, .int .u64 b] w fun e w' => e = .returned (.int .u64 (((a + b) % p : Nat) : Int)) ∧ Below w.heap.size w w' := by
  obtain ⟨h1, h2⟩ := okP_lt hp
  unfold fv
  have hrun := run_add64 a b
  obtain ⟨s, hs⟩ : ∃ s, s = (a + b) % 18446744073709551616 := ⟨_, rfl⟩
  obtain ⟨c, hc⟩ : ∃ c, c = (a + b) / 18446744073709551616 := ⟨_, rfl⟩
  rw [← hs, ← hc] at hrun
  by_cases z : c = 0
  · have d1 : ((c : Int) != 0) = false := by rw [bne_eq_false_iff_eq]; omega
    have d1' : (c : Int) = 0 := by omega
    by_cases hge : p ≤ s
    · have d2 : (p : Int) ≤ (s : Int) := by omega
      have e : IntKind.u64.wrap ((s : Int) - (p : Int)) = (((a + b) % p : Nat) : Int) := by
        rw [wr_sub s p hge (by omega)]
        congr 1
        have e1 : s = a + b := by omega
        rw [e1, Nat.mod_eq_sub_mod (by omega), Nat.mod_eq_of_lt (by omega)]
      generalize (a + b) % p = r at *
      clear hs hc hp z ha hb h1 h2 d1'
      go_enter Try.func104, Try.ntmps104
      go_wp2_with fail
      go_ret
      exact ⟨rfl, (Below.refl _ _).alloc (Nat.le_refl _) _⟩
    · have d2 : ¬ ((p : Int) ≤ (s : Int)) := by omega
      have e : s = (a + b) % p := by
        have e1 : s = a + b := by omega
        rw [e1, Nat.mod_eq_of_lt (by omega)]
      have HE := Lib.hid e
      clear hs hc hp z ha hb h1 h2 d1' e
      rw [← HE.out]
      go_enter Try.func104, Try.ntmps104
      go_wp2_with fail
      go_ret
      exact ⟨rfl, (Below.refl _ _).alloc (Nat.le_refl _) _⟩
  · have d1 : ((c : Int) != 0) = true := by rw [bne_iff_ne]; omega
    have e : IntKind.u64.wrap ((s : Int) - (p : Int)) = (((a + b) % p : Nat) : Int) := by
      have e1 : (a + b) % p = a + b - p := by rw [Nat.mod_eq_sub_mod (by omega), Nat.mod_eq_of_lt (by omega)]
      rw [e1, IntKind.wrap_u64]
      omega
    generalize (a + b) % p = r at *
    clear hs hc hp z ha hb h1 h2
    go_enter Try.func104, Try.ntmps104
    go_wp2_with fail
    go_ret
    exact ⟨rfl, (Below.refl _ _).alloc (Nat.le_refl _) _⟩

set_option maxRecDepth 100000 in
set_option maxHeartbeats 400000 in
theorem fReduce_any (p n : Nat) (w : World) (hp : okP p = true) :
    Calls Try.prog 60 #[fv p, .int .u64 n] w fun e w' => e = .returned (.int .u64 ((n % p : Nat) : Int)) ∧ Below w.heap.size w w' := by
  have HV := Lib.hid (fun w => fValid_any p w hp)
  have HR := Lib.hid (fun w => fReduced_any p n w (by have := okP_lt hp; omega))
  clear hp
  unfold fv at *
  generalize n % p = r at *
  have hb0 : Below w.heap.size w (w.alloc (.cells #[.int .u64 (p : Int)] 88)) := (Below.refl _ _).alloc (Nat.le_refl _) _
  have kf := Blk.new w 88 #[.int .u64 (p : Int)]
  go_enter Try.func60, Try.ntmps60
  go_wp2_with fail
  refine (HV.out _).mono ?_
  rintro e w1 ⟨rfl, hb1⟩
  replace kf := kf.below hb1 kf.lt
  replace hb0 := below_chain hb0 hb1
  clear hb1
  have cf := kf.cell
  go_wp2_with fail
  refine (HR.out _).mono ?_
  rintro e w2 ⟨rfl, hb2⟩
  go_wp2
  go_ret
  exact ⟨rfl, below_chain hb0 hb2⟩

set_option maxRecDepth 100000 in
set_option maxHeartbeats 400000 in
theorem fAdd_any (p a b : Nat) (w : World) (hp : okP p = true) :
    Calls Try.prog 75 #[fv p, .int .u64 a, .int .u64 b] w fun e w' => e = .returned (.int .u64 (((a + b) % p : Nat) : Int)) ∧ Below w.heap.size w w' := by
  have hpp : 0 < p := by have := okP_lt hp; omega
  have HV := Lib.hid (fun w => fValid_any p w hp)
  have HA := Lib.hid (fun w => fReduced_any p a w hpp)
  have HB := Lib.hid (fun w => fReduced_any p b w hpp)
  have HS := Lib.hid (fun w => fadd_any p (a % p) (b % p) w hp (Nat.mod_lt _ hpp) (Nat.mod_lt _ hpp))
  rw [← Nat.add_mod] at HS
  clear hp hpp
  unfold fv at *
  generalize (a + b) % p = r at *
  generalize a % p = x at *
  generalize b % p = y at *
  have hb0 : Below w.heap.size w (w.alloc (.cells #[.int .u64 (p : Int)] 88)) := (Below.refl _ _).alloc (Nat.le_refl _) _
  have kf := Blk.new w 88 #[.int .u64 (p : Int)]
  go_enter Try.func75, Try.ntmps75
  go_wp2_with fail
  refine (HV.out _).mono ?_
  rintro e w1 ⟨rfl, hb1⟩
  replace kf := kf.below hb1 kf.lt
  replace hb0 := below_chain hb0 hb1
  clear hb1
  have cf := kf.cell
  have lf := kf.lt
  go_wp2_with fail
  refine wpGO_begin (Later) (later_moves) [] [] [0, 1, 2, 3, 4, 5, 6, 7, 8] (by kernel_rfl) (by kernel_rfl) ?_
  refine wpGO_start (later_moves) ?_
  intro Wc hacc
  repeat (first | (refine wpGO_skip (later_moves) rfl rfl rfl rfl (fun _ _ _ h => h) ?_ ; simp only [Act.put, List.setIfInBounds_toArray, List.set_cons_zero, List.set_cons_succ]) | (refine wpGO_light (v := ?_) (later_moves) rfl rfl rfl rfl (fun _ _ _ h => h) ?_ ?_ ; rotate_left ; (· (intro w' hR ; (first | have hcells := later_cellsD ((later_moves).trans _ _ _ hacc hR) | skip) ; go_simp ; try with_reducible rfl)) ; simp only [Act.put, List.setIfInBounds_toArray, List.set_cons_zero, List.set_cons_succ]))
  refine wpGO_call (later_moves) rfl rfl rfl rfl (fun _ _ _ h => h) (fun _ => by go_simp <;> rfl) (fun w' hR => HA.out _) ?_
  simp only [Act.put, List.setIfInBounds_toArray, List.set_cons_zero, List.set_cons_succ]
  repeat (first | (refine wpGO_skip (later_moves) rfl rfl rfl rfl (fun _ _ _ h => h) ?_ ; simp only [Act.put, List.setIfInBounds_toArray, List.set_cons_zero, List.set_cons_succ]) | (refine wpGO_light (v := ?_) (later_moves) rfl rfl rfl rfl (fun _ _ _ h => h) ?_ ?_ ; rotate_left ; (· (intro w' hR ; (first | have hcells := later_cellsD ((later_moves).trans _ _ _ hacc hR) | skip) ; go_simp ; try with_reducible rfl)) ; simp only [Act.put, List.setIfInBounds_toArray, List.set_cons_zero, List.set_cons_succ]))
  refine wpGO_call (later_moves) rfl rfl rfl rfl (fun _ _ _ h => h) (fun _ => by go_simp <;> rfl) (fun w' hR => HB.out _) ?_
  simp only [Act.put, List.setIfInBounds_toArray, List.set_cons_zero, List.set_cons_succ]
  repeat (first | (refine wpGO_skip (later_moves) rfl rfl rfl rfl (fun _ _ _ h => h) ?_ ; simp only [Act.put, List.setIfInBounds_toArray, List.set_cons_zero, List.set_cons_succ]) | (refine wpGO_light (v := ?_) (later_moves) rfl rfl rfl rfl (fun _ _ _ h => h) ?_ ?_ ; rotate_left ; (· (intro w' hR ; (first | have hcells := later_cellsD ((later_moves).trans _ _ _ hacc hR) | skip) ; go_simp ; try with_reducible rfl)) ; simp only [Act.put, List.setIfInBounds_toArray, List.set_cons_zero, List.set_cons_succ]))
  refine wpGO_call (later_moves) rfl rfl rfl rfl (fun _ _ _ h => h) (fun _ => by go_simp <;> rfl) (fun w' hR => HS.out _) ?_
  simp only [Act.put, List.setIfInBounds_toArray, List.set_cons_zero, List.set_cons_succ]
  repeat (first | (refine wpGO_skip (later_moves) rfl rfl rfl rfl (fun _ _ _ h => h) ?_ ; simp only [Act.put, List.setIfInBounds_toArray, List.set_cons_zero, List.set_cons_succ]) | (refine wpGO_light (v := ?_) (later_moves) rfl rfl rfl rfl (fun _ _ _ h => h) ?_ ?_ ; rotate_left ; (· (intro w' hR ; (first | have hcells := later_cellsD ((later_moves).trans _ _ _ hacc hR) | skip) ; go_simp ; try with_reducible rfl)) ; simp only [Act.put, List.setIfInBounds_toArray, List.set_cons_zero, List.set_cons_succ]))
  refine wpGO_done rfl ?_
  intro wd hRd
  replace hacc := (later_moves).trans _ _ _ hacc hRd
  clear hRd
  go_wp2
  go_ret
  exact ⟨rfl, below_chain hb0.drew hacc⟩
end Go.Proofs.Ytefnagiffllhbaa

/- FldB -/
namespace Go.Proofs.Ytefnagiffllhbaa
open Go.RowKit

theorem pow_odd (p r a e n : Nat) (h : r * a ^ e % p = n) (he : e % 2 = 1) : (r * a % p) * (a * a % p) ^ (e / 2) % p = n := by
  have h2 : e = 2 * (e / 2) + 1 := by omega
  rw [← h, Nat.mul_mod, Nat.mod_mod, ← Nat.pow_mod, ← Nat.mul_mod]
  conv => rhs; rw [h2, Nat.pow_succ, Nat.pow_mul, Nat.pow_two, Nat.mul_comm _ a, ← Nat.mul_assoc]
theorem pow_even (p r a e n : Nat) (h : r * a ^ e % p = n) (he : e % 2 = 0) : r * (a * a % p) ^ (e / 2) % p = n := by
  have h2 : e = 2 * (e / 2) := by omega
  rw [← h, Nat.mul_mod, ← Nat.pow_mod, ← Nat.mul_mod]
  conv => rhs; rw [h2, Nat.pow_mul, Nat.pow_two]

set_option maxRecDepth 100000 in
set_option maxHeartbeats 1000000 in
theorem fpow_any (p a e : Nat) (w : World) (hp : okP p = true) (ha : a < p) (he : e < 18446744073709551616) :
    Calls Try.prog 84 #[fv p, .int .u64 a, .int .u64 e] w fun e' w' => e' = .returned (.int .u64 ((a ^ e % p : Nat) : Int)) ∧ Below w.heap.size w w' := by
  have hpp : 1 < p := by have := okP_lt hp; omega
  have HM := Lib.hid (fun a b w (h1 : a < p) (h2 : b < p) => fmul_any p a b w hp h1 h2)
  obtain ⟨n, hn⟩ : ∃ n, n = a ^ e % p := ⟨_, rfl⟩
  rw [← hn]
  have HI := Lib.hid (show 1 * a ^ e % p = n by rw [Nat.one_mul, hn])
  have HP := Lib.hid hpp
  clear hn hp hpp
  unfold fv at *
  have hb0 : Below w.heap.size w (w.alloc (.cells #[.int .u64 (p : Int)] 88)) := (Below.refl _ _).alloc (Nat.le_refl _) _
  have kf := Blk.new w 88 #[.int .u64 (p : Int)]
  go_enter Try.func84, Try.ntmps84
  go_wp2_with fail
  generalize w.alloc _ = w0 at hb0 kf ⊢
  go_loopw [1, 2, 7] (fun x y z wr => ∃ a' e' r : Nat, x = .int .u64 (a' : Int) ∧ y = .int .u64 (e' : Int) ∧ z = .int .u64 (r : Int) ∧ a' < p ∧ r < p ∧ e' < 18446744073709551616 ∧ Hid (r * a' ^ e' % p = n) ∧ Below w0.heap.size w0 wr) (fun _ y _ _ => (intOf y).toNat)
  case atStart => exact ⟨a, e, 1, rfl, rfl, rfl, ha, HP.out, he, HI.out, Below.refl _ _⟩
  case round =>
    obtain ⟨a', e', r, rfl, rfl, rfl, ha', hr', he', H, hbr⟩ := hrel
    have kf' := kf.below hbr kf.lt
    have cf := kf'.cell
    by_cases h0 : e' = 0
    · subst h0
      have HE := Lib.hid (show r = n by have := H.out; rw [Nat.pow_zero, Nat.mul_one, Nat.mod_eq_of_lt hr'] at this; exact this)
      go_wp2
      go_ret
      exact ⟨by rw [HE.out]; rfl, hb0.trans (hbr.mono hb0.size)⟩
    · have g1 : (0 : Int) < (e' : Int) := by omega
      obtain ⟨f, hf⟩ : ∃ f, f = e' / 2 := ⟨_, rfl⟩
      have e1 : (e' : Int) / 2 = (f : Int) := by omega
      have eb : bits BinOp.and IntKind.u64 (e' : Int) 1 = ((e' % 2 : Nat) : Int) := by
        have := bits_and_u64_nat e' 1 he' (by omega)
        rw [Nat.and_one_is_mod] at this
        exact this
      rcases (show e' % 2 = 1 ∨ e' % 2 = 0 by omega) with hodd | hodd
      · rw [hodd] at eb
        have HF := Lib.hid hf
        have HM1 := Lib.hid (fun w => HM.out r a' w hr' ha')
        have HX := pow_odd p r a' e' n H.out hodd
        rw [← hf] at HX
        have hs2 : r * a' % p < p := Nat.mod_lt _ (by have := HP.out; omega)
        generalize r * a' % p = s at *
        have HX0 := fun (hf0 : f = 0) => show s * a' ^ f % p = n by rw [hf0, Nat.pow_zero] at HX ⊢; exact HX
        replace HX := Lib.hid HX
        replace HX0 := Lib.hid HX0
        clear hodd hf
        go_wp2_with fail
        refine (HM1.out _).mono ?_
        rintro e w1 ⟨rfl, hb1⟩
        replace kf' := kf'.below hb1 kf'.lt
        replace hbr := below_on hbr hb1 hbr.size
        clear cf hb1
        have cf := kf'.cell
        by_cases hf0 : f = 0
        · have d3 : decide (0 < f) = false := decide_eq_false (by omega)
          have HF0 := Lib.hid hf0
          clear hf0
          go_wp2_with fail
          go_roundw
          case rel => exact ⟨a', f, s, rfl, rfl, rfl, ha', hs2, by have := HF.out; omega, HX0.out HF0.out, hbr⟩
          case measure => have := HF.out; simp [intOf]; omega
        · have g3 : (0 : Int) < (f : Int) := by omega
          have HQ := Lib.hid (fun w => HM.out a' a' w ha' ha')
          have hq2 : a' * a' % p < p := Nat.mod_lt _ (by have := HP.out; omega)
          have HN2 := Lib.hid HX.out
          generalize a' * a' % p = q at *
          go_wp2_with fail
          refine (HQ.out _).mono ?_
          rintro e w2 ⟨rfl, hb2⟩
          replace hbr := below_on hbr hb2 hbr.size
          go_wp2
          go_roundw
          case rel => exact ⟨q, f, s, rfl, rfl, rfl, hq2, hs2, by have := HF.out; omega, HN2.out, hbr⟩
          case measure => have := HF.out; simp [intOf]; omega
      · rw [hodd] at eb
        have HF := Lib.hid hf
        have HX := pow_even p r a' e' n H.out hodd
        rw [← hf] at HX
        have HX0 := fun (hf0 : f = 0) => show r * a' ^ f % p = n by rw [hf0, Nat.pow_zero] at HX ⊢; exact HX
        replace HX := Lib.hid HX
        replace HX0 := Lib.hid HX0
        clear hodd hf
        by_cases hf0 : f = 0
        · have d3 : decide (0 < f) = false := decide_eq_false (by omega)
          have HF0 := Lib.hid hf0
          clear hf0
          go_wp2_with fail
          go_roundw
          case rel => exact ⟨a', f, r, rfl, rfl, rfl, ha', hr', by have := HF.out; omega, HX0.out HF0.out, hbr⟩
          case measure => have := HF.out; simp [intOf]; omega
        · have g3 : (0 : Int) < (f : Int) := by omega
          have HQ := Lib.hid (fun w => HM.out a' a' w ha' ha')
          have hq2 : a' * a' % p < p := Nat.mod_lt _ (by have := HP.out; omega)
          have HN2 := Lib.hid HX.out
          generalize a' * a' % p = q at *
          go_wp2_with fail
          refine (HQ.out _).mono ?_
          rintro e w2 ⟨rfl, hb2⟩
          replace hbr := below_on hbr hb2 hbr.size
          go_wp2
          go_roundw
          case rel => exact ⟨q, f, r, rfl, rfl, rfl, hq2, hr', by have := HF.out; omega, HN2.out, hbr⟩
          case measure => have := HF.out; simp [intOf]; omega
end Go.Proofs.Ytefnagiffllhbaa
