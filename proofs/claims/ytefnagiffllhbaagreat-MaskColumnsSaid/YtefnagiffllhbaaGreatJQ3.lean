/-
  A drawn region along one order, where what the loads read need stay only until a store that waits for all of them ('the bar').
-/
import Derived.Test.YtefnagiffllhbaaGreatJQ2

/- Ord -/
namespace Go.Proofs.YtefnagiffllhbaaGreat
open Go.RowKit

/-- May the operations be taken in this order? Those of hs must each be the only one that can come up. -/
def okOrd (l : List Oper) (hs : List Nat) : List Nat → Array Bool → Bool
  | [], listed => (Region.ready .any l.toArray listed).isEmpty
  | i :: rest, listed => decide (i < l.length) && Region.free .any l.toArray listed i && (Region.ready .any l.toArray listed).contains i &&
      (!hs.contains i || Region.ready .any l.toArray listed == [i]) && okOrd l hs rest (listed.setIfInBounds i true)

/-- The rest of the region, in this order. -/
def wpO (P : Program) (l : List Oper) (hs : List Nat) (Q : Exit → Act → World → Prop) (R : World → World → Prop) (order : List Nat) (listed : Array Bool) (a : Act) (w : World) : Prop :=
  Region.noSelect l.toArray = true → okOrd l hs order listed = true → wpR P l.toArray Q R order.length listed a w

section
variable {P : Program} {l : List Oper} {hs : List Nat} {Q : Exit → Act → World → Prop} {R : World → World → Prop} {rest : List Nat} {i : Nat} {o : Oper} {listed : Array Bool} {a : Act} {w : World}
theorem wpO_begin {id : Nat} (R : World → World → Prop) (hs order : List Nat) (hm : P.follows .mixedOrders = true) (hok : (Region.noSelect l.toArray && order.length == l.length && okOrd l hs order (List.replicate l.length false).toArray) = true)
    (h : wpO P l hs Q R order (List.replicate l.length false).toArray a w.drew) : (Code.region id l.toArray true).wp P Q a w := by
  simp only [Bool.and_eq_true, beq_iff_eq] at hok
  refine wpR_begin R hm ?_
  rw [← hok.1.2]
  have := h hok.1.1 hok.2
  rwa [hok.1.2] at this ⊢
theorem wpO_start (M : Moves R) {order : List Nat} (h : ∀ W, R w W → wpO P l hs Q R order listed a W) : wpO P l hs Q R order listed a w := h w (M.refl w)
theorem wpO_done (h : Q .normal a w) : wpO P l hs Q R [] listed a w := fun _ hok => wpR_done (by simpa [okOrd] using hok) h
theorem okOrd_cons (h : okOrd l hs (i :: rest) listed = true) : i < l.length ∧ Region.free .any l.toArray listed i = true ∧ (Region.ready .any l.toArray listed).contains i = true ∧
    (hs.contains i = true → Region.ready .any l.toArray listed = [i]) ∧ okOrd l hs rest (listed.setIfInBounds i true) = true := by
  unfold okOrd at h
  simp only [Bool.and_eq_true, Bool.or_eq_true, Bool.not_eq_true', decide_eq_true_eq, beq_iff_eq] at h
  obtain ⟨⟨⟨⟨h1, h2⟩, h3⟩, h4⟩, h5⟩ := h
  refine ⟨h1, h2, h3, fun h6 => ?_, h5⟩
  rcases h4 with h4 | h4
  · rw [h6] at h4; cases h4
  · exact h4
theorem get_of {h : i < l.length} (ho : l[i]? = some o) : l[i] = o := by
  rw [List.getElem?_eq_getElem h] at ho
  injection ho
theorem wpO_light {v : Value} (M : Moves R) (ho : l[i]? = some o) (hw : Region.wanted o (yielded l.toArray a.tmps) = true) (hQ : ∀ c a w, Q (.panic c) (a.put o.dst v) w → Q (.panic c) a w)
    (hrun : ∀ w', R w w' → (execOp a.eval o).run P w' = .ok (.value v) w') (h : wpO P l hs Q R rest (listed.setIfInBounds i true) (a.put o.dst v) w) : wpO P l hs Q R (i :: rest) listed a w := by
  intro hn hok
  obtain ⟨h1, h2, h3, -, h5⟩ := okOrd_cons hok
  have e := get_of (h := h1) ho
  subst e
  exact wpR_take i M h1 hn h2 h3 hQ (.inl ⟨hw, hrun⟩) (h hn h5)
theorem wpO_skip (M : Moves R) (ho : l[i]? = some o) (hw : Region.wanted o (yielded l.toArray a.tmps) = false) (hQ : ∀ c a w, Q (.panic c) (a.put o.dst undef) w → Q (.panic c) a w)
    (h : wpO P l hs Q R rest (listed.setIfInBounds i true) (a.put o.dst undef) w) : wpO P l hs Q R (i :: rest) listed a w := by
  intro hn hok
  obtain ⟨h1, h2, h3, -, h5⟩ := okOrd_cons hok
  have e := get_of (h := h1) ho
  subst e
  exact wpR_take i M h1 hn h2 h3 hQ (.inr ⟨hw, rfl⟩) (h hn h5)
theorem wpO_heavy (M : Moves R) (hh : hs.contains i = true) (ho : l[i]? = some o) (hw : Region.wanted o (yielded l.toArray a.tmps) = true)
    (h : o.wp P a w (fun a' w' => R w w' ∧ wpO P l hs Q R rest (listed.setIfInBounds i true) a' w') Q) : wpO P l hs Q R (i :: rest) listed a w := by
  intro hn hok
  obtain ⟨h1, -, -, h4, h5⟩ := okOrd_cons hok
  have e := get_of (h := h1) ho
  subst e
  exact wpR_only i M h1 (h4 hh) hw (Oper.wp_mono (fun a' w' h' => ⟨h'.1, h'.2 hn h5⟩) h)
theorem wpO_call {f : FuncId} {vals : Array Value} (M : Moves R) (hh : hs.contains i = true) (ho : l[i]? = some o) (hw : Region.wanted o (yielded l.toArray a.tmps) = true)
    (hrun : ∀ w, (execOp a.eval o).run P w = .ok (.enter f vals) w)
    (h : Calls P f vals w fun e w' => ∃ v, e = .returned v ∧ R w w' ∧ wpO P l hs Q R rest (listed.setIfInBounds i true) (a.put o.dst v) w') : wpO P l hs Q R (i :: rest) listed a w := by
  refine wpO_heavy M hh ho hw ?_
  unfold Oper.wp
  rw [hrun w]
  refine Calls.mono h ?_
  rintro e w' ⟨v, rfl, h1, h2⟩
  exact ⟨h1, h2⟩
end

theorem later_cells {w w' : World} (h : Later w w') : ∀ b o, b < w.heap.size → w'.cell? ⟨b, o, none⟩ = w.cell? ⟨b, o, none⟩ := fun b o hb => Below.cell h (p := ⟨b, o, none⟩) hb
theorem later_cellsD {w w' : World} (h : Later w.drew w') : ∀ b o, b < w.heap.size → w'.cell? ⟨b, o, none⟩ = w.cell? ⟨b, o, none⟩ := fun b o hb => Below.cell h (p := ⟨b, o, none⟩) hb
theorem only_cells {g : Nat} {w w' : World} (h : Only g w w') : ∀ b o, b < w.heap.size → b ≠ g → w'.cell? ⟨b, o, none⟩ = w.cell? ⟨b, o, none⟩ := fun b o hb hne => by
  have := h.block b hb (fun e => hne (by injection e))
  simp only [World.cell?, this]
theorem only_cellsD {g : Nat} {w w' : World} (h : Only g w.drew w') : ∀ b o, b < w.heap.size → b ≠ g → w'.cell? ⟨b, o, none⟩ = w.cell? ⟨b, o, none⟩ := fun b o hb hne => only_cells h b o hb hne

/-- Only cell i of block g has changed, of what was there. -/
def OnlyAt (g i : Nat) (w w' : World) : Prop := w.grownBy w' (some g) ∧ ∀ t cs, Blk w g t cs → ∃ v, Blk w' g t (cs.setIfInBounds i v)
theorem onlyAt_moves (g i : Nat) : Moves (OnlyAt g i) := by
  refine ⟨fun w => ⟨grown_refl' w _, fun t cs h => ⟨cs.getD i undef, ?_⟩⟩, fun a b c h k => ⟨grown_step h.1 k.1 fun _ e => .inl e, fun t cs hb => ?_⟩⟩
  · have e : cs.setIfInBounds i (cs.getD i undef) = cs := by
      apply Array.ext
      · simp
      · intro j h1 h2
        rw [Array.getElem_setIfInBounds]
        · split
          · subst_vars
            simp [h2]
          · rfl
    rw [e]
    exact h
  · obtain ⟨v, hv⟩ := h.2 t cs hb
    obtain ⟨u, hu⟩ := k.2 t _ hv
    exact ⟨u, by simpa using hu⟩
theorem onlyAt_later {g i : Nat} {w w' : World} (h : Later w w') (hg : g < w.heap.size) : OnlyAt g i w w' :=
  ⟨grown_below (grown_refl' w _) h (Nat.le_refl _), fun t cs hb => by
    obtain ⟨v, hv⟩ := ((onlyAt_moves g i).refl w).2 t cs hb
    exact ⟨v, (h.block g hg).trans hv⟩⟩
theorem onlyAt_set {g i : Nat} (w : World) (v : Value) : OnlyAt g i w (w.setCell ⟨g, i, none⟩ v) := ⟨grown_setCell' (p := ⟨g, i, none⟩) (grown_refl' w _) (.inl rfl) v, fun _ _ hb => ⟨v, hb.set_ i v⟩⟩
theorem onlyAt_cellsD {g i : Nat} {w w' : World} (h : OnlyAt g i w.drew w') : ∀ b o, b < w.heap.size → b ≠ g → w'.cell? ⟨b, o, none⟩ = w.cell? ⟨b, o, none⟩ := fun b o hb hne => only_cells (w := w.drew) h.1 b o hb hne
theorem onlyAt_own {g i : Nat} {w w' : World} {t : TypeId} {cs : Array Value} (h : OnlyAt g i w.drew w') (k : Blk w g t cs) : ∀ j, j ≠ i → w'.cell? ⟨g, j, none⟩ = cs[j]? := fun j hj => by
  obtain ⟨v, hv⟩ := h.2 t cs k
  rw [hv.cell j, Array.getElem?_setIfInBounds, if_neg (fun e => hj e.symm)]
end Go.Proofs.YtefnagiffllhbaaGreat

/- RefH -/
namespace Go.Proofs.YtefnagiffllhbaaGreat
open Go.RowKit

theorem okP_lt {p : Nat} (h : okP p = true) : 17 ≤ p ∧ p < 18446744073709551616 := by
  rcases okP_cases h with rfl | rfl | rfl | rfl | rfl | rfl | rfl <;> omega

set_option maxRecDepth 100000 in
set_option maxHeartbeats 1000000 in
theorem rAdd_any (p a b : Nat) (w : World) (hp : okP p = true) :
    Calls Tryz.prog 24 #[.int .u64 p, .int .u64 a, .int .u64 b] w fun e w' => e = .returned (.int .u64 ((a + b) % p : Nat)) ∧ Below w.heap.size w w' := by
  obtain ⟨h1, h2⟩ := okP_lt hp
  have HO := Lib.hid hp
  have p1 : (0 : Int) < (p : Int) := by omega
  have p2 : ¬ ((p : Int) = 0) := by omega
  have ha : a % p < p := Nat.mod_lt _ (by omega)
  have hb : b % p < p := Nat.mod_lt _ (by omega)
  have HE := Lib.hid (Nat.add_mod a b p)
  have e1 : (a : Int) % (p : Int) = ((a % p : Nat) : Int) := rfl
  have e2 : (b : Int) % (p : Int) = ((b % p : Nat) : Int) := rfl
  rw [HE.out]
  clear HE
  revert e1 e2 ha hb
  generalize a % p = x
  generalize b % p = y
  intro ha hb e1 e2
  have e3 : IntKind.u64.wrap ((p : Int) - (y : Int)) = ((p - y : Nat) : Int) := wr_sub p y (by omega) h2
  have hz : p - y ≤ p := by omega
  have hz2 : p - y = p - y := rfl
  obtain ⟨z, hzz⟩ : ∃ z, z = p - y := ⟨_, rfl⟩
  rw [← hzz] at e3
  have HX := Lib.hid (show z ≤ x ∧ x + y < 36893488147419103232 → True from fun _ => trivial)
  by_cases hc : z ≤ x
  · have e4 : IntKind.u64.wrap ((x : Int) - (z : Int)) = ((x - z : Nat) : Int) := wr_sub x z hc (by omega)
    obtain ⟨r, hr⟩ : ∃ r, r = x - z := ⟨_, rfl⟩
    rw [← hr] at e4
    have HR := Lib.hid (show (x + y) % p = r by rw [hr, hzz, Nat.mod_eq_sub_mod (by omega), Nat.mod_eq_of_lt (by omega)]; omega)
    have d1 : decide ((z : Int) ≤ (x : Int)) = true := decide_eq_true (by omega)
    clear hr hzz hz hz2 h1 h2 ha hb hp
    rw [HR.out]
    go_enter Tryz.func24, Tryz.ntmps24
    go_wp2_with (go_at_call 51; refine (rValidP_any p _ (okP_lt HO.out).2).mono ?_; rintro e w1 ⟨rfl, hb1⟩; rw [HO.out])
    go_quiet (fail)
    go_wp2
    go_ret
    exact ⟨rfl, below_drewN' hb1 _⟩
  · have e4 : IntKind.u64.wrap ((x : Int) + (y : Int)) = ((x + y : Nat) : Int) := wr_add x y (by omega)
    obtain ⟨r, hr⟩ : ∃ r, r = x + y := ⟨_, rfl⟩
    rw [← hr] at e4
    have HR := Lib.hid (show (x + y) % p = r by rw [hr, Nat.mod_eq_of_lt (by omega)])
    have d1 : decide ((z : Int) ≤ (x : Int)) = false := decide_eq_false (by omega)
    clear hr hzz hz hz2 h1 h2 ha hb hp
    rw [HR.out]
    go_enter Tryz.func24, Tryz.ntmps24
    go_wp2_with (go_at_call 51; refine (rValidP_any p _ (okP_lt HO.out).2).mono ?_; rintro e w1 ⟨rfl, hb1⟩; rw [HO.out])
    go_quiet (fail)
    go_wp2
    go_ret
    exact ⟨rfl, below_drewN' hb1 _⟩

set_option maxRecDepth 100000 in
set_option maxHeartbeats 1000000 in
theorem rMul_any (p a b : Nat) (w : World) (hp : okP p = true) :
    Calls Tryz.prog 47 #[.int .u64 p, .int .u64 a, .int .u64 b] w fun e w' => e = .returned (.int .u64 (a * b % p : Nat)) ∧ Below w.heap.size w w' := by
  obtain ⟨h1, h2⟩ := okP_lt hp
  have HO := Lib.hid hp
  have p1 : (0 : Int) < (p : Int) := by omega
  have p2 : ¬ ((p : Int) = 0) := by omega
  have p3 : ¬ (p = 0) := by omega
  have ha : a % p < p := Nat.mod_lt _ (by omega)
  have hb : b % p < p := Nat.mod_lt _ (by omega)
  have e1 : (a : Int) % (p : Int) = ((a % p : Nat) : Int) := rfl
  have e2 : (b : Int) % (p : Int) = ((b % p : Nat) : Int) := rfl
  have e3 : (a : Int).tmod (p : Int) = ((a % p : Nat) : Int) := rfl
  have e4 : (b : Int).tmod (p : Int) = ((b % p : Nat) : Int) := rfl
  rw [Nat.mul_mod a b p]
  revert e1 e2 e3 e4 ha hb
  generalize a % p = x
  generalize b % p = y
  intro ha hb e1 e2 e3 e4
  have HX := Lib.hid (show x < 18446744073709551616 ∧ y < 18446744073709551616 by omega)
  have hhi : x * y / 18446744073709551616 < p := by
    have : x * y ≤ p * 18446744073709551615 := Nat.mul_le_mul (by omega) (by omega)
    rw [Nat.div_lt_iff_lt_mul (by omega)]
    omega
  have hlo : x * y % 18446744073709551616 < 18446744073709551616 := Nat.mod_lt _ (by omega)
  have hXY := Nat.div_add_mod (x * y) 18446744073709551616
  rw [Nat.mul_comm 18446744073709551616] at hXY
  have HM := Lib.hid (fun w => mul64_any x y w HX.out.1 HX.out.2)
  revert hhi hlo hXY HM
  generalize x * y / 18446744073709551616 = hi
  generalize x * y % 18446744073709551616 = lo
  intro hhi hlo hXY HM
  have HD := Lib.hid (fun w => div64_any hi lo p w hhi hlo h2)
  rw [hXY] at HD
  clear h1 h2 ha hb hhi hlo hXY hp
  revert HD
  generalize x * y / p = q
  generalize x * y % p = r
  intro HD
  go_enter Tryz.func47, Tryz.ntmps47
  go_wp2_with (go_at_call 51; refine (rValidP_any p _ (okP_lt HO.out).2).mono ?_; rintro e w1 ⟨rfl, hb1⟩; rw [HO.out])
  refine wpO_begin (Later) [6] [0, 1, 2, 3, 4, 5, 6, 7, 8, 9, 10, 11] (by kernel_rfl) (by kernel_rfl) ?_
  refine wpO_start (later_moves) ?_
  intro Wc hacc
  repeat (first | (refine wpO_skip (later_moves) rfl rfl (fun _ _ _ h => h) ?_ ; simp only [Act.put, List.setIfInBounds_toArray, List.set_cons_zero, List.set_cons_succ]) | (refine wpO_light (v := ?_) (later_moves) rfl rfl (fun _ _ _ h => h) ?_ ?_ ; rotate_left ; (· (intro w' hR ; (first | have hcells := later_cellsD ((later_moves).trans _ _ _ hacc hR) | skip) ; go_simp ; try with_reducible rfl)) ; simp only [Act.put, List.setIfInBounds_toArray, List.set_cons_zero, List.set_cons_succ]))
  refine wpO_call (later_moves) rfl rfl rfl (fun _ => by go_simp <;> rfl) ((HM.out _).mono ?_)
  rintro e w2 ⟨rfl, rfl⟩
  refine ⟨_, rfl, later_moves.refl _, ?_⟩
  replace hacc := (later_moves).trans _ _ _ hacc (later_moves.refl _)
  simp only [Act.put, List.setIfInBounds_toArray, List.set_cons_zero, List.set_cons_succ]
  repeat (first | (refine wpO_skip (later_moves) rfl rfl (fun _ _ _ h => h) ?_ ; simp only [Act.put, List.setIfInBounds_toArray, List.set_cons_zero, List.set_cons_succ]) | (refine wpO_light (v := ?_) (later_moves) rfl rfl (fun _ _ _ h => h) ?_ ?_ ; rotate_left ; (· (intro w' hR ; (first | have hcells := later_cellsD ((later_moves).trans _ _ _ hacc hR) | skip) ; go_simp ; try with_reducible rfl)) ; simp only [Act.put, List.setIfInBounds_toArray, List.set_cons_zero, List.set_cons_succ]))
  refine wpO_done ?_
  go_wp2_with (go_at_call 97; refine (HD.out _).mono ?_; rintro e w3 ⟨rfl, k, rfl⟩)
  go_ret
  exact ⟨rfl, below_drewN' (below_chain hb1.drew hacc) _⟩
end Go.Proofs.YtefnagiffllhbaaGreat

/- OrdV -/
namespace Go.Proofs.YtefnagiffllhbaaGreat
open Go.RowKit

/-- Has one of the bars come up? -/
def past (bars : List Nat) (listed : Array Bool) : Bool := bars.any fun b => listed.getD b true
theorem past_set {bars : List Nat} {listed : Array Bool} {j : Nat} (h : j ∉ bars) : past bars (listed.setIfInBounds j true) = past bars listed := by
  unfold past
  induction bars with
  | nil => rfl
  | cons b r ih =>
    simp only [List.mem_cons, not_or] at h
    simp only [List.any_cons]
    rw [getD_set_ne true h.1, ih h.2]

section
variable {P : Program} {ops : Array Oper} {Q : Exit → Act → World → Prop} {bars : List Nat} {S : World → Prop}
/-- Whatever order is picked; S holds behind every operation before a bar. -/
def wpAnyB (P : Program) (ops : Array Oper) (Q : Exit → Act → World → Prop) (bars : List Nat) (S : World → Prop) : Nat → Array Bool → Act → World → Prop
  | 0, listed, a, w => Region.ready .any ops listed = [] ∧ Q .normal a w
  | fuel + 1, listed, a, w =>
    (Region.ready .any ops listed = [] → Q .normal a w) ∧
    ∀ i ∈ Region.ready .any ops listed, wpOp P ops Q i (fun a' w' => (past bars (listed.setIfInBounds i true) = false → S w') ∧ wpAnyB P ops Q bars S fuel (listed.setIfInBounds i true) a' w') a w
theorem wpAny_of_B : ∀ (fuel : Nat) (listed : Array Bool) (a : Act) (w : World), wpAnyB P ops Q bars S fuel listed a w → wpAny P .any ops Q fuel listed a w
  | 0, _, _, _, h => h
  | fuel + 1, _, _, _, h => ⟨h.1, fun i hi => wpOp_mono (fun a' w' h' => wpAny_of_B fuel _ a' w' h'.2) (h.2 i hi)⟩
theorem wpAnyB_sub {S' : World → Prop} (hS : ∀ w, S' w → S w) : ∀ (fuel : Nat) (listed : Array Bool) (a : Act) (w : World), wpAnyB P ops Q bars S' fuel listed a w → wpAnyB P ops Q bars S fuel listed a w
  | 0, _, _, _, h => h
  | fuel + 1, _, _, _, h => ⟨h.1, fun i hi => wpOp_mono (fun a' w' h' => ⟨fun hp => hS _ (h'.1 hp), wpAnyB_sub hS fuel _ a' w' h'.2⟩) (h.2 i hi)⟩
theorem past_mono {listed : Array Bool} {i : Nat} (h : past bars listed = true) : past bars (listed.setIfInBounds i true) = true := by
  unfold past at *
  rw [List.any_eq_true] at *
  obtain ⟨b, hb, h1⟩ := h
  refine ⟨b, hb, ?_⟩
  by_cases e : i = b
  · subst e
    rcases Nat.lt_or_ge i listed.size with h2 | h2
    · simp [h2]
    · simp [Nat.not_lt.2 h2]
  · rw [getD_set_ne true e]; exact h1
/-- Behind the bar nothing is asked. -/
theorem wpAnyB_past {S' : World → Prop} : ∀ (fuel : Nat) (listed : Array Bool) (a : Act) (w : World), past bars listed = true → wpAnyB P ops Q bars S' fuel listed a w → wpAnyB P ops Q bars S fuel listed a w
  | 0, _, _, _, _, h => h
  | fuel + 1, _, _, _, hp, h => ⟨h.1, fun i hi => wpOp_mono (fun a' w' h' => ⟨fun hp' => (by rw [past_mono hp] at hp'; cases hp'), wpAnyB_past fuel _ a' w' (past_mono hp) h'.2⟩) (h.2 i hi)⟩

/-- An operation may be taken first if it yields its value in every world that meets T, and T holds as long as it has not come up. -/
theorem wpAnyB_first {T : World → Prop} {i : Nat} {oi : Oper} {v : Value} (hi : ops[i]? = some oi) (hsel : ∀ (j : Nat) (o : Oper) cs b, ops[j]? = some o → o.op ≠ .select cs b)
    (hQ : ∀ c a w, Q (.panic c) (a.put oi.dst v) w → Q (.panic c) a w) (hib : i ∉ bars)
    (hT : (∀ w, T w) ∨ ((∀ w, S w → T w) ∧ ∀ b ∈ bars, ∀ ob, ops[b]? = some ob → ∃ e ∈ ob.after, Region.binds .any e = true ∧ e.on = i)) :
    ∀ (fuel : Nat) (listed : Array Bool) (a : Act) (w : World), ((∀ w, T w) ∨ past bars listed = false) →
      (∀ j oj, ops[j]? = some oj → j ≠ i → listed.getD j true = false → (∀ e ∈ oj.after, Region.binds .any e = true → e.on ≠ i) → oi.apart ops oj = true) →
      i ∈ Region.ready .any ops listed → YieldsIf P ops T oi v a → T w → (past bars listed = false → S w) →
      wpAnyB P ops Q bars S fuel (listed.setIfInBounds i true) (a.put oi.dst v) w → wpAnyB P ops Q bars S (fuel + 1) listed a w := by
  intro fuel
  induction fuel with
  | zero =>
    intro listed a w hpl _ hr hy hTw hS H
    refine ⟨fun h => (by rw [h] at hr; cases hr), fun j hj => ?_⟩
    by_cases hji : j = i
    · subst hji; exact hy.wpOp hi hTw ⟨fun hp => hS (by rwa [past_set hib] at hp), H⟩
    · have := ready_mono hj hji
      rw [H.1] at this
      cases this
  | succ fuel ih =>
    intro listed a w hpl hfree hr hy hTw hS H
    refine ⟨fun h => (by rw [h] at hr; cases hr), fun j hj => ?_⟩
    by_cases hji : j = i
    · subst hji; exact hy.wpOp hi hTw ⟨fun hp => hS (by rwa [past_set hib] at hp), H⟩
    · have h1 := H.2 j (ready_mono hj hji)
      obtain ⟨hjun, oj, hoj, hall⟩ := mem_ready.1 hj
      have hnot : ∀ e ∈ oj.after, Region.binds .any e = true → e.on ≠ i := fun e he hb heq => by
        have h1 := hall e he hb
        have h0 := (mem_ready.1 hr).1
        rw [heq] at h1
        rcases Nat.lt_or_ge i listed.size with h' | h'
        · simp [h'] at h0 h1; rw [h0] at h1; cases h1
        · simp [Array.getElem?_eq_none h'] at h1
      have h2 := wpOp_putIf hoj (hfree j oj hoj hji hjun hnot) (fun cs b => hsel i oi cs b hi) (fun cs b => hsel j oj cs b hoj) hQ hy h1
      have hfree' : ∀ k ok, ops[k]? = some ok → k ≠ i → (listed.setIfInBounds j true).getD k true = false →
          (∀ e ∈ ok.after, Region.binds .any e = true → e.on ≠ i) → oi.apart ops ok = true := fun k ok hk hki hun hno => by
        refine hfree k ok hk hki ?_ hno
        by_cases hjk : j = k
        · subst hjk; exact hjun
        · rw [getD_set_ne true hjk] at hun; exact hun
      have hpe : past bars ((listed.setIfInBounds i true).setIfInBounds j true) = past bars (listed.setIfInBounds j true) := by
        rw [Array.setIfInBounds_comm _ _ (Ne.symm hji), past_set hib]
      refine wpOp_mono (fun a' w' h3 => ?_) h2
      have hS' : past bars (listed.setIfInBounds j true) = false → S w' := fun hp => h3.2.1 (by rw [hpe]; exact hp)
      have hboth : ((∀ w, T w) ∨ past bars (listed.setIfInBounds j true) = false) ∧ T w' := by
        rcases hT with hT | ⟨hST, hbar⟩
        · exact ⟨.inl hT, hT w'⟩
        · rcases hpl with hpl | hpl
          · exact ⟨.inl hpl, hpl w'⟩
          · have hjb : j ∉ bars := fun hb => by
              obtain ⟨e, he, hbi, hei⟩ := hbar j hb oj hoj
              exact hnot e he hbi hei
            have hp' : past bars (listed.setIfInBounds j true) = false := by rw [past_set hjb]; exact hpl
            exact ⟨.inr hp', hST _ (hS' hp')⟩
      refine ⟨hS', ih (listed.setIfInBounds j true) a' w' hboth.1 hfree' (ready_mono hr (Ne.symm hji)) h3.1 hboth.2 hS' ?_⟩
      rw [Array.setIfInBounds_comm _ _ hji]
      exact h3.2.2
end

/-- The rest of the region, from the world w on. -/
def wpB (P : Program) (ops : Array Oper) (Q : Exit → Act → World → Prop) (bars : List Nat) (R : World → World → Prop) (fuel : Nat) (listed : Array Bool) (a : Act) (w : World) : Prop :=
  wpAnyB P ops Q bars (R w) fuel listed a w

/-- Does operation b wait for operation i? -/
def waits (l : List Oper) (b i : Nat) : Bool := match l[b]? with | some o => o.after.any fun e => Region.binds .any e && e.on == i | none => true
def okOrdV (l : List Oper) (hs bars : List Nat) : List Nat → Array Bool → Bool
  | [], listed => (Region.ready .any l.toArray listed).isEmpty
  | i :: rest, listed => decide (i < l.length) && (Region.ready .any l.toArray listed).contains i &&
      (if hs.contains i then Region.ready .any l.toArray listed == [i] else Region.free .any l.toArray listed i && !bars.contains i && (past bars listed || bars.all fun b => waits l b i)) && okOrdV l hs bars rest (listed.setIfInBounds i true)
def wpV (P : Program) (l : List Oper) (hs bars : List Nat) (Q : Exit → Act → World → Prop) (R : World → World → Prop) (order : List Nat) (listed : Array Bool) (a : Act) (w : World) : Prop :=
  Region.noSelect l.toArray = true → okOrdV l hs bars order listed = true → wpB P l.toArray Q bars R order.length listed a w

section
variable {P : Program} {l : List Oper} {hs bars : List Nat} {Q : Exit → Act → World → Prop} {R : World → World → Prop} {rest : List Nat} {i : Nat} {o : Oper} {listed : Array Bool} {a : Act} {w : World}
theorem wpV_begin {id : Nat} (R : World → World → Prop) (hs bars order : List Nat) (hm : P.follows .mixedOrders = true) (hok : (Region.noSelect l.toArray && order.length == l.length && okOrdV l hs bars order (List.replicate l.length false).toArray) = true)
    (h : wpV P l hs bars Q R order (List.replicate l.length false).toArray a w.drew) : (Code.region id l.toArray true).wp P Q a w := by
  simp only [Bool.and_eq_true, beq_iff_eq] at hok
  refine wp_region_any hm (wpAny_of_B (bars := bars) (S := R w.drew) _ _ _ _ ?_)
  have h2 := h hok.1.1 hok.2
  have e : Array.replicate l.toArray.size false = (List.replicate l.length false).toArray := by simp
  rw [hok.1.2] at h2
  rw [e]
  simpa [wpB] using h2
theorem wpV_start (M : Moves R) {order : List Nat} (h : ∀ W, R w W → wpV P l hs bars Q R order listed a W) : wpV P l hs bars Q R order listed a w := h w (M.refl w)
theorem wpV_startK (M : Moves R) {order : List Nat} (h : ∀ W, Hid (W = w) → R w W → wpV P l hs bars Q R order listed a W) : wpV P l hs bars Q R order listed a w := h w rfl (M.refl w)
theorem wpV_done (h : Q .normal a w) : wpV P l hs bars Q R [] listed a w := fun _ hok => ⟨by simpa [okOrdV] using hok, h⟩
theorem okOrdV_cons (h : okOrdV l hs bars (i :: rest) listed = true) : i < l.length ∧ (Region.ready .any l.toArray listed).contains i = true ∧
    (hs.contains i = true → Region.ready .any l.toArray listed = [i]) ∧
    (hs.contains i = false → Region.free .any l.toArray listed i = true ∧ i ∉ bars ∧ (past bars listed = true ∨ ∀ b ∈ bars, waits l b i = true)) ∧ okOrdV l hs bars rest (listed.setIfInBounds i true) = true := by
  unfold okOrdV at h
  simp only [Bool.and_eq_true, decide_eq_true_eq] at h
  obtain ⟨⟨⟨h1, h2⟩, h3⟩, h4⟩ := h
  refine ⟨h1, h2, fun h6 => ?_, fun h6 => ?_, h4⟩
  · rw [if_pos h6] at h3
    simpa using h3
  · rw [if_neg (by rw [h6]; exact Bool.noConfusion)] at h3
    simp only [Bool.and_eq_true, Bool.not_eq_true', Bool.or_eq_true, List.all_eq_true] at h3
    refine ⟨h3.1.1, fun hm => ?_, h3.2⟩
    have := h3.1.2
    simp [hm] at this
theorem waits_spec {b : Nat} {ob : Oper} (hb : l.toArray[b]? = some ob) (h : waits l b i = true) : ∃ e ∈ ob.after, Region.binds .any e = true ∧ e.on = i := by
  unfold waits at h
  rw [List.getElem?_toArray] at hb
  rw [hb] at h
  simp only [Array.any_eq_true] at h
  obtain ⟨k, hk, he⟩ := h
  simp only [Bool.and_eq_true, beq_iff_eq] at he
  exact ⟨ob.after[k], Array.getElem_mem hk, he.1, he.2⟩
/-- What only reads. -/
theorem wpV_light {v : Value} (M : Moves R) (hh : hs.contains i = false) (ho : l[i]? = some o) (hw : Region.wanted o (yielded l.toArray a.tmps) = true) (hQ : ∀ c a w, Q (.panic c) (a.put o.dst v) w → Q (.panic c) a w)
    (hrun : ∀ w', (past bars listed = false → R w w') → (execOp a.eval o).run P w' = .ok (.value v) w') (h : wpV P l hs bars Q R rest (listed.setIfInBounds i true) (a.put o.dst v) w) : wpV P l hs bars Q R (i :: rest) listed a w := by
  intro hn hok
  obtain ⟨h1, h2, -, h4, h5⟩ := okOrdV_cons hok
  obtain ⟨f1, f2, f3⟩ := h4 hh
  have hoa : l.toArray[i]? = some o := by rw [List.getElem?_toArray]; exact ho
  cases hp : past bars listed
  · refine wpAnyB_first (T := R w) hoa (Region.noSelect_spec hn) hQ f2 (.inr ⟨fun _ h => h, fun b hb ob hob => waits_spec hob ?_⟩) _ _ _ _ (.inr hp) (Region.free_spec hoa f1) (by simpa using h2) (.inl ⟨hw, fun w' hR => hrun w' fun _ => hR⟩) (M.refl w) (fun _ => M.refl w) (h hn h5)
    rcases f3 with f3 | f3
    · rw [hp] at f3; cases f3
    · exact f3 b hb
  · exact wpAnyB_first (T := fun _ => True) hoa (Region.noSelect_spec hn) hQ f2 (.inl fun _ => trivial) _ _ _ _ (.inl fun _ => trivial) (Region.free_spec hoa f1) (by simpa using h2) (.inl ⟨hw, fun w' _ => hrun w' fun h => by rw [hp] at h; cases h⟩) trivial (fun _ => M.refl w) (h hn h5)
theorem wpV_skip (M : Moves R) (hh : hs.contains i = false) (ho : l[i]? = some o) (hw : Region.wanted o (yielded l.toArray a.tmps) = false) (hQ : ∀ c a w, Q (.panic c) (a.put o.dst undef) w → Q (.panic c) a w)
    (h : wpV P l hs bars Q R rest (listed.setIfInBounds i true) (a.put o.dst undef) w) : wpV P l hs bars Q R (i :: rest) listed a w := by
  intro hn hok
  obtain ⟨h1, h2, -, h4, h5⟩ := okOrdV_cons hok
  obtain ⟨f1, f2, f3⟩ := h4 hh
  have hoa : l.toArray[i]? = some o := by rw [List.getElem?_toArray]; exact ho
  exact wpAnyB_first (T := fun _ => True) hoa (Region.noSelect_spec hn) hQ f2 (.inl fun _ => trivial) _ _ _ _ (.inl fun _ => trivial) (Region.free_spec hoa f1) (by simpa using h2) (.inr ⟨hw, rfl⟩) trivial (fun _ => M.refl w) (h hn h5)
theorem wpV_heavy (M : Moves R) (hh : hs.contains i = true) (ho : l[i]? = some o) (hw : Region.wanted o (yielded l.toArray a.tmps) = true)
    (h : o.wp P a w (fun a' w' => (past bars (listed.setIfInBounds i true) = false → R w w') ∧ wpV P l hs bars Q R rest (listed.setIfInBounds i true) a' w') Q) : wpV P l hs bars Q R (i :: rest) listed a w := by
  intro hn hok
  obtain ⟨h1, h2, h3, -, h5⟩ := okOrdV_cons hok
  have hr := h3 hh
  refine ⟨fun h0 => absurd (hr ▸ h0) (by simp), fun j hj => ?_⟩
  rw [hr, List.mem_singleton] at hj
  subst hj
  unfold wpOp
  have hi : l.toArray[j]? = some o := by rw [List.getElem?_toArray]; exact ho
  simp only [hi, hw, if_true]
  refine .inl (Oper.wp_mono (fun a' w' h' => ⟨h'.1, ?_⟩) h)
  have hk := h'.2 hn h5
  cases hp : past bars (listed.setIfInBounds j true)
  · exact wpAnyB_sub (fun w2 h2 => M.trans _ _ _ (h'.1 hp) h2) _ _ _ _ hk
  · exact wpAnyB_past _ _ _ _ hp hk
theorem wpV_call {f : FuncId} {vals : Array Value} (M : Moves R) (hh : hs.contains i = true) (ho : l[i]? = some o) (hw : Region.wanted o (yielded l.toArray a.tmps) = true)
    (hrun : ∀ w, (execOp a.eval o).run P w = .ok (.enter f vals) w)
    (h : Calls P f vals w fun e w' => ∃ v, e = .returned v ∧ (past bars (listed.setIfInBounds i true) = false → R w w') ∧ wpV P l hs bars Q R rest (listed.setIfInBounds i true) (a.put o.dst v) w') : wpV P l hs bars Q R (i :: rest) listed a w := by
  refine wpV_heavy M hh ho hw ?_
  unfold Oper.wp
  rw [hrun w]
  refine Calls.mono h ?_
  rintro e w' ⟨v, rfl, h1, h2⟩
  exact ⟨h1, h2⟩
end

/-- Nothing below block N has changed, except block g. -/
def FromX (g N : Nat) (w w' : World) : Prop := w'.os = w.os ∧ w'.tape = w.tape ∧ w'.output = w.output ∧ w.heap.size ≤ w'.heap.size ∧ ∀ b, b < N → b ≠ g → w'.heap[b]? = w.heap[b]?
theorem fromX_moves (g N : Nat) : Moves (FromX g N) := ⟨fun _ => ⟨rfl, rfl, rfl, Nat.le_refl _, fun _ _ _ => rfl⟩, fun _ _ _ h k => ⟨k.1.trans h.1, k.2.1.trans h.2.1, k.2.2.1.trans h.2.2.1, Nat.le_trans h.2.2.2.1 k.2.2.2.1, fun b h1 h2 => (k.2.2.2.2 b h1 h2).trans (h.2.2.2.2 b h1 h2)⟩⟩
theorem fromX_cellsD {g N : Nat} {w w' : World} (h : FromX g N w.drew w') : ∀ b o, b < N → b ≠ g → w'.cell? ⟨b, o, none⟩ = w.cell? ⟨b, o, none⟩ := fun b o hb hne => by
  have := h.2.2.2.2 b hb hne
  simp only [World.cell?, this]
  rfl
theorem fromX_below {g N B : Nat} {w w' : World} (h : Below B w w') (hN : N ≤ B) : FromX g N w w' := ⟨h.os, h.tape, h.output, h.size, fun b hb _ => h.block b (by omega)⟩
theorem fromX_grown {g N : Nat} {w w' : World} (h : w.grownBy w' (some g)) (hN : N ≤ w.heap.size) : FromX g N w w' := ⟨h.os, h.tape, h.output, h.size, fun b hb hne => h.block b (by omega) (fun e => hne (Option.some.inj e))⟩
theorem fromX_row {g N : Nat} {w w' : World} {row : Option Nat} (h : w.grownBy w' row) (hN : N ≤ w.heap.size) (hr : ∀ k, row = some k → N ≤ k) : FromX g N w w' := ⟨h.os, h.tape, h.output, h.size, fun b hb _ => h.block b (by omega) (fun e => by have := hr b e.symm; omega)⟩
end Go.Proofs.YtefnagiffllhbaaGreat
