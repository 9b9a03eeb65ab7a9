/- A part of the proof: Ord. No condition. -/
import Derived.Test.YtakjnmojigechaaGreatJA8

namespace Go.Proofs.YtakjnmojigechaaGreat
open Go.RowKit
def okOrd (l : List Oper) (hs : List Nat) : List Nat → Array Bool → Bool
  | [], listed => (Region.ready .any l.toArray listed).isEmpty
  | i :: rest, listed => decide (i < l.length) && Region.free .any l.toArray listed i && (Region.ready .any l.toArray listed).contains i &&
      (!hs.contains i || Region.ready .any l.toArray listed == [i]) && okOrd l hs rest (listed.setIfInBounds i true)
def wpO (P : Program) (l : List Oper) (hs : List Nat) (Q : Exit → Act → World → Prop) (R : World → World → Prop) (order : List Nat) (listed : Array Bool) (a : Act) (w : World) : Prop :=
  Region.noSelect l.toArray = true → okOrd l hs order listed = true → wpR P l.toArray Q R order.length listed a w
section
variable {P : Program} {l : List Oper} {hs : List Nat} {Q : Exit → Act → World → Prop} {R : World → World → Prop} {rest : List Nat} {i : Nat} {o : Oper} {listed : Array Bool} {a : Act} {w : World}
theorem wpO_begin {id : Nat} (R : World → World → Prop) (hs order : List Nat) (hm : P.follows .mixedOrders = true) (hok : (Region.noSelect l.toArray && order.length == l.length && okOrd l hs order (List.replicate l.length false).toArray) = true)
    (h : wpO P l hs Q R order (List.replicate l.length false).toArray a w.drew) : (Code.region id l.toArray true).wp P Q a w := by
  simp only [Bool.and_eq_true, beq_iff_eq] at hok
  refine wpR_begin R hm ?_
  rw [← hok.1.2]
  have := h hok.1.1 hok.2
  rwa [hok.1.2] at this ⊢
theorem wpO_start (M : Moves R) {order : List Nat} (h : ∀ W, R w W → wpO P l hs Q R order listed a W) : wpO P l hs Q R order listed a w := h w (M.refl w)
theorem wpO_done (h : Q .normal a w) : wpO P l hs Q R [] listed a w := fun _ hok => wpR_done (by simpa [okOrd] using hok) h
theorem okOrd_cons (h : okOrd l hs (i :: rest) listed = true) : i < l.length ∧ Region.free .any l.toArray listed i = true ∧ (Region.ready .any l.toArray listed).contains i = true ∧
    (hs.contains i = true → Region.ready .any l.toArray listed = [i]) ∧ okOrd l hs rest (listed.setIfInBounds i true) = true := by
  unfold okOrd at h
  simp only [Bool.and_eq_true, Bool.or_eq_true, Bool.not_eq_true', decide_eq_true_eq, beq_iff_eq] at h
  obtain ⟨⟨⟨⟨h1, h2⟩, h3⟩, h4⟩, h5⟩ := h
  refine ⟨h1, h2, h3, fun h6 => ?_, h5⟩
  rcases h4 with h4 | h4
  · rw [h6] at h4; cases h4
  · exact h4
theorem get_of {h : i < l.length} (ho : l[i]? = some o) : l[i] = o := by
  rw [List.getElem?_eq_getElem h] at ho
  injection ho
theorem wpO_light {v : Value} (M : Moves R) (ho : l[i]? = some o) (hw : Region.wanted o (yielded l.toArray a.tmps) = true) (hQ : ∀ c a w, Q (.panic c) (a.put o.dst v) w → Q (.panic c) a w)
    (hrun : ∀ w', R w w' → (execOp a.eval o).run P w' = .ok (.value v) w') (h : wpO P l hs Q R rest (listed.setIfInBounds i true) (a.put o.dst v) w) : wpO P l hs Q R (i :: rest) listed a w := by
  intro hn hok
  obtain ⟨h1, h2, h3, -, h5⟩ := okOrd_cons hok
  have e := get_of (h := h1) ho
  subst e
  exact wpR_take i M h1 hn h2 h3 hQ (.inl ⟨hw, hrun⟩) (h hn h5)
theorem wpO_skip (M : Moves R) (ho : l[i]? = some o) (hw : Region.wanted o (yielded l.toArray a.tmps) = false) (hQ : ∀ c a w, Q (.panic c) (a.put o.dst undef) w → Q (.panic c) a w)
    (h : wpO P l hs Q R rest (listed.setIfInBounds i true) (a.put o.dst undef) w) : wpO P l hs Q R (i :: rest) listed a w := by
  intro hn hok
  obtain ⟨h1, h2, h3, -, h5⟩ := okOrd_cons hok
  have e := get_of (h := h1) ho
  subst e
  exact wpR_take i M h1 hn h2 h3 hQ (.inr ⟨hw, rfl⟩) (h hn h5)
theorem wpO_heavy (M : Moves R) (hh : hs.contains i = true) (ho : l[i]? = some o) (hw : Region.wanted o (yielded l.toArray a.tmps) = true)
    (h : o.wp P a w (fun a' w' => R w w' ∧ wpO P l hs Q R rest (listed.setIfInBounds i true) a' w') Q) : wpO P l hs Q R (i :: rest) listed a w := by
  intro hn hok
  obtain ⟨h1, -, -, h4, h5⟩ := okOrd_cons hok
  have e := get_of (h := h1) ho
  subst e
  exact wpR_only i M h1 (h4 hh) hw (Oper.wp_mono (fun a' w' h' => ⟨h'.1, h'.2 hn h5⟩) h)
theorem wpO_call {f : FuncId} {vals : Array Value} (M : Moves R) (hh : hs.contains i = true) (ho : l[i]? = some o) (hw : Region.wanted o (yielded l.toArray a.tmps) = true)
    (hrun : ∀ w, (execOp a.eval o).run P w = .ok (.enter f vals) w)
    (h : Calls P f vals w fun e w' => ∃ v, e = .returned v ∧ R w w' ∧ wpO P l hs Q R rest (listed.setIfInBounds i true) (a.put o.dst v) w') : wpO P l hs Q R (i :: rest) listed a w := by
  refine wpO_heavy M hh ho hw ?_
  unfold Oper.wp
  rw [hrun w]
  refine Calls.mono h ?_
  rintro e w' ⟨v, rfl, h1, h2⟩
  exact ⟨h1, h2⟩
end
theorem later_cellsD {w w' : World} (h : Later w.drew w') : ∀ b o, b < w.heap.size → w'.cell? ⟨b, o, none⟩ = w.cell? ⟨b, o, none⟩ := fun b o hb => Below.cell h (p := ⟨b, o, none⟩) hb
theorem only_cells {g : Nat} {w w' : World} (h : Only g w w') : ∀ b o, b < w.heap.size → b ≠ g → w'.cell? ⟨b, o, none⟩ = w.cell? ⟨b, o, none⟩ := fun b o hb hne => by
  have := h.block b hb (fun e => hne (by injection e))
  simp only [World.cell?, this]
theorem only_cellsD {g : Nat} {w w' : World} (h : Only g w.drew w') : ∀ b o, b < w.heap.size → b ≠ g → w'.cell? ⟨b, o, none⟩ = w.cell? ⟨b, o, none⟩ := fun b o hb hne => only_cells h b o hb hne
def OnlyAt (g i : Nat) (w w' : World) : Prop := w.grownBy w' (some g) ∧ ∀ t cs, Blk w g t cs → ∃ v, Blk w' g t (cs.setIfInBounds i v)
theorem onlyAt_moves (g i : Nat) : Moves (OnlyAt g i) := by
  refine ⟨fun w => ⟨grown_refl' w _, fun t cs h => ⟨cs.getD i undef, ?_⟩⟩, fun a b c h k => ⟨grown_step h.1 k.1 fun _ e => .inl e, fun t cs hb => ?_⟩⟩
  · have e : cs.setIfInBounds i (cs.getD i undef) = cs := by
      apply Array.ext
      · simp
      · intro j h1 h2
        rw [Array.getElem_setIfInBounds]
        · split
          · subst_vars
            simp [h2]
          · rfl
    rw [e]
    exact h
  · obtain ⟨v, hv⟩ := h.2 t cs hb
    obtain ⟨u, hu⟩ := k.2 t _ hv
    exact ⟨u, by simpa using hu⟩
theorem onlyAt_set {g i : Nat} (w : World) (v : Value) : OnlyAt g i w (w.setCell ⟨g, i, none⟩ v) := ⟨grown_setCell' (p := ⟨g, i, none⟩) (grown_refl' w _) (.inl rfl) v, fun _ _ hb => ⟨v, hb.set_ i v⟩⟩
theorem onlyAt_cellsD {g i : Nat} {w w' : World} (h : OnlyAt g i w.drew w') : ∀ b o, b < w.heap.size → b ≠ g → w'.cell? ⟨b, o, none⟩ = w.cell? ⟨b, o, none⟩ := fun b o hb hne => only_cells (w := w.drew) h.1 b o hb hne
theorem onlyAt_own {g i : Nat} {w w' : World} {t : TypeId} {cs : Array Value} (h : OnlyAt g i w.drew w') (k : Blk w g t cs) : ∀ j, j ≠ i → w'.cell? ⟨g, j, none⟩ = cs[j]? := fun j hj => by
  obtain ⟨v, hv⟩ := h.2 t cs k
  rw [hv.cell j, Array.getElem?_setIfInBounds, if_neg (fun e => hj e.symm)]
end Go.Proofs.YtakjnmojigechaaGreat
