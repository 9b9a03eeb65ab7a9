/-
  The document's layout: ref24.New.
-/
import Derived.Test.YtefnagiffllhbaaGreatJQ8
import Derived.Test.YtefnagiffllhbaaGreatJQ7
import Derived.Test.YtefnagiffllhbaaGreatJQ6

/- OwnK -/
namespace Go.Proofs.YtefnagiffllhbaaGreat
open Go.RowKit

/-- Nothing below block B has changed. -/
def From (B : Nat) (w w' : World) : Prop := Below B w w'
theorem from_moves (B : Nat) : Moves (From B) := ⟨fun w => Below.refl _ w, fun _ _ _ h k => Below.trans h k⟩
theorem from_cellsD {B : Nat} {w w' : World} (h : From B w.drew w') : ∀ b o, b < B → w'.cell? ⟨b, o, none⟩ = w.cell? ⟨b, o, none⟩ := fun b o hb => Below.cell h (p := ⟨b, o, none⟩) hb
theorem from_later {B : Nat} {w w' : World} (h : Below w.heap.size w w') (hB : B ≤ w.heap.size) : From B w w' := h.mono hB
theorem from_set {B : Nat} (w : World) {g i : Nat} (v : Value) (hg : B ≤ g) : From B w (w.setCell ⟨g, i, none⟩ v) := (Below.refl B w).setCell (p := ⟨g, i, none⟩) hg v

/-- Reads in one order, ahead of all else. -/
def okL (l : List Oper) : List Nat → Array Bool → Bool
  | [], _ => true
  | i :: rest, listed => decide (i < l.length) && Region.free .any l.toArray listed i && (Region.ready .any l.toArray listed).contains i && okL l rest (listed.setIfInBounds i true)
def wpL (P : Program) (l : List Oper) (Q : Exit → Act → World → Prop) (R : World → World → Prop) (order : List Nat) (fuel : Nat) (listed : Array Bool) (a : Act) (w : World) : Prop :=
  Region.noSelect l.toArray = true → okL l order listed = true → wpR P l.toArray Q R (order.length + fuel) listed a w
section
variable {P : Program} {l : List Oper} {Q : Exit → Act → World → Prop} {R : World → World → Prop} {rest : List Nat} {fuel i : Nat} {o : Oper} {listed : Array Bool} {a : Act} {w : World}
theorem wpL_begin {id : Nat} (R : World → World → Prop) (order : List Nat) (fuel : Nat) (hm : P.follows .mixedOrders = true) (hok : (Region.noSelect l.toArray && order.length + fuel == l.length && okL l order (List.replicate l.length false).toArray) = true)
    (h : wpL P l Q R order fuel (List.replicate l.length false).toArray a w.drew) : (Code.region id l.toArray true).wp P Q a w := by
  simp only [Bool.and_eq_true, beq_iff_eq] at hok
  refine wpR_begin R hm ?_
  rw [← hok.1.2]
  have := h hok.1.1 hok.2
  rwa [hok.1.2] at this ⊢
theorem wpL_startK (M : Moves R) {order : List Nat} (h : ∀ W, Hid (W = w) → R w W → wpL P l Q R order fuel listed a W) : wpL P l Q R order fuel listed a w := h w rfl (M.refl w)
theorem wpL_start (M : Moves R) {order : List Nat} (h : ∀ W, R w W → wpL P l Q R order fuel listed a W) : wpL P l Q R order fuel listed a w := h w (M.refl w)
theorem okL_cons (h : okL l (i :: rest) listed = true) : i < l.length ∧ Region.free .any l.toArray listed i = true ∧ (Region.ready .any l.toArray listed).contains i = true ∧ okL l rest (listed.setIfInBounds i true) = true := by
  unfold okL at h
  simp only [Bool.and_eq_true, decide_eq_true_eq] at h
  obtain ⟨⟨⟨h1, h2⟩, h3⟩, h4⟩ := h
  exact ⟨h1, h2, h3, h4⟩
theorem wpL_light {v : Value} (M : Moves R) (ho : l[i]? = some o) (hw : Region.wanted o (yielded l.toArray a.tmps) = true) (hQ : ∀ c a w, Q (.panic c) (a.put o.dst v) w → Q (.panic c) a w)
    (hrun : ∀ w', R w w' → (execOp a.eval o).run P w' = .ok (.value v) w') (h : wpL P l Q R rest fuel (listed.setIfInBounds i true) (a.put o.dst v) w) : wpL P l Q R (i :: rest) fuel listed a w := by
  intro hn hok
  obtain ⟨h1, h2, h3, h5⟩ := okL_cons hok
  have e := get_of (h := h1) ho
  subst e
  have := wpR_take (fuel := rest.length + fuel) i M h1 hn h2 h3 hQ (.inl ⟨hw, hrun⟩) (h hn h5)
  rw [List.length_cons, show rest.length + 1 + fuel = rest.length + fuel + 1 by omega]
  exact this
theorem wpL_skip (M : Moves R) (ho : l[i]? = some o) (hw : Region.wanted o (yielded l.toArray a.tmps) = false) (hQ : ∀ c a w, Q (.panic c) (a.put o.dst undef) w → Q (.panic c) a w)
    (h : wpL P l Q R rest fuel (listed.setIfInBounds i true) (a.put o.dst undef) w) : wpL P l Q R (i :: rest) fuel listed a w := by
  intro hn hok
  obtain ⟨h1, h2, h3, h5⟩ := okL_cons hok
  have e := get_of (h := h1) ho
  subst e
  have := wpR_take (fuel := rest.length + fuel) i M h1 hn h2 h3 hQ (.inr ⟨hw, rfl⟩) (h hn h5)
  rw [List.length_cons, show rest.length + 1 + fuel = rest.length + fuel + 1 by omega]
  exact this
theorem wpR_tail (hs order : List Nat) (hok : (Region.noSelect l.toArray && okOrd l hs order listed) = true) (h : wpO P l hs Q R order listed a w) : wpR P l.toArray Q R order.length listed a w := by
  rw [Bool.and_eq_true] at hok
  exact h hok.1 hok.2
end

/-- The act behind some operations: their slots and numbers. -/
def puts (a : Act) (vs : Nat → Value) (js : List (Option Tmp × Nat)) : Act := js.foldl (fun a j => a.put j.1 (vs j.2)) a
theorem puts_putAll (l : List Oper) (vs : Nat → Value) : ∀ (js : List Nat) (a : Act), putAll l vs a js = puts a vs (js.map fun j => (dstOf l j, j))
  | [], _ => rfl
  | _ :: js, _ => puts_putAll l vs js _

section
variable {P : Program} {l : List Oper} {Q : Exit → Act → World → Prop} {R : World → World → Prop} {T : List Step} {ps : List (Nat × Fact)} {B : Nat} {w0 : World} {a0 : Act} {L0 : Array Bool}
abbrev NoX : Nat → Prop := fun _ => False
theorem eff_below {B : Nat} {w w' : World} : Eff B NoX w w' ↔ Below B w w' := ⟨fun h => ⟨h.1, h.2.1, h.2.2.1, h.2.2.2.1, fun b hb => h.2.2.2.2 b hb id⟩, fun h => ⟨h.os, h.tape, h.output, h.size, fun b hb _ => h.block b hb⟩⟩
/-- What belongs to the operation behind a run. -/
def Grown (w w' : World) (F : Nat → Nat → Prop) (eat : List Nat) : Nat → Prop := fun b => (w.heap.size ≤ b ∧ b < w'.heap.size) ∨ ∃ j ∈ eat, F j b
/-- Nothing has changed but what is new and what is taken over. -/
def Near (B : Nat) (w w' : World) (F : Nat → Nat → Prop) (eat : List Nat) : Prop := Below B w w' ∧ ∀ b, b < w.heap.size → (∀ j ∈ eat, ¬ F j b) → w'.heap[b]? = w.heap[b]?
theorem near_same (B : Nat) (w : World) (F : Nat → Nat → Prop) (eat : List Nat) : Near B w w F eat := ⟨Below.refl _ _, fun _ _ _ => rfl⟩
theorem near_below {B : Nat} {w w' : World} (h : Below w.heap.size w w') (hB : B ≤ w.heap.size) (F : Nat → Nat → Prop) (eat : List Nat) : Near B w w' F eat := ⟨h.mono hB, fun b hb _ => h.block b hb⟩
theorem near_grown {B g : Nat} {w w' : World} {F : Nat → Nat → Prop} {eat : List Nat} (h : w.grownBy w' (some g)) (hg : B ≤ g) (hB : B ≤ w.heap.size) {j : Nat} (hj : j ∈ eat) (hF : F j g) : Near B w w' F eat :=
  ⟨below_of_only h hB hg, fun b hb hn => h.block b hb fun e => hn j hj (by rw [Option.some.inj e]; exact hF)⟩
/-- The group's rule where nothing old is written. -/
theorem wpL_own (M : Moves R) (T : List Step) (ps : List (Nat × Fact)) (js : List (Option Tmp × Nat)) (hs tail : List Nat) {fuel : Nat} (hn : Region.noSelect l.toArray = true)
    (hok : (okOwn l T L0 && (T.all fun s => decide (s.i < l.length)) && decide (T.length + tail.length = fuel) && okOrd l hs tail (allUp T L0) && (((T.map (·.i)).map fun j => (dstOf l j, j)) == js)) = true)
    (hB : B ≤ w0.heap.size) (hR : ∀ w', Below B w0 w' → R w0 w') (hst : ∀ s ∈ T, Stays (pick ps) B NoX w0 s) (htask : ∀ s ∈ T, Task P l (pick ps) B NoX w0 a0 s)
    (hfin : ∀ (w : World) (vs : Nat → Value) (F : Nat → Nat → Prop), Below B w0 w → (∀ s ∈ T, (∀ k ∈ T, s.i ∉ k.eat) → pick ps s.i vs (F s.i) w ∧ ∀ b, F s.i b → b < w.heap.size ∧ B ≤ b) → (∀ j k b, j ≠ k → F j b → ¬ F k b) →
      wpO P l hs Q R tail (allUp T L0) (puts a0 vs js) w) : wpL P l Q R [] fuel L0 a0 w0 := by
  intro _ _
  simp only [Bool.and_eq_true, beq_iff_eq, decide_eq_true_eq] at hok
  obtain ⟨⟨⟨⟨h1, h2⟩, h3⟩, h4⟩, h5⟩ := hok
  rw [List.all_eq_true] at h2
  have ok := okOwn_spec h1
  have hlt : ∀ s ∈ T, s.i < l.length := fun s hs => by simpa using h2 s hs
  have hall : ∀ s ∈ T, L0.getD s.i true = false := fun s hs => (okTopo_spec _ _ ok.topo _ (List.mem_map.2 ⟨s, hs, rfl⟩) _ (List.getElem?_eq_getElem (hlt s hs))).2
  rw [List.length_nil, Nat.zero_add]
  refine wpR_own (X := NoX) (fr := tail.length) M hn h1 hB (fun w' h => hR w' (eff_below.1 h)) (fun _ => undef) (fun _ => l.length) (fun _ _ => Nat.le_refl _) (fun s hs h => absurd (hlt s hs) (Nat.not_lt.2 h)) hst htask ?_ fun w vs F he hf hd => ?_
  · rw [List.filter_eq_self.2 fun s hs => by rw [hall s hs]; rfl]
    exact h3
  · have e : (T.map (·.i)).filter (· < l.length) = T.map (·.i) := List.filter_eq_self.2 fun j hj => by
      obtain ⟨s, hs, rfl⟩ := List.mem_map.1 hj
      simpa using hlt s hs
    rw [e, puts_putAll, h5]
    exact hfin w vs F (eff_below.1 he) (fun s hs hne => ⟨(hf s hs hne).1, fun b hb => ⟨((hf s hs hne).2 b hb).1, ((hf s hs hne).2 b hb).2.resolve_right id⟩⟩) hd hn h4
/-- One operation's task, with its act written out. -/
theorem task_mk {s : Step} {o : Oper} (js : List (Option Tmp × Nat)) (ho : l[s.i]? = some o) (hjs : ((s.deps.filter (· < l.length)).map fun j => (dstOf l j, j)) = js)
    (h : ∀ (w : World) (vs : Nat → Value) (F : Nat → Nat → Prop), Below B w0 w → (∀ j ∈ s.deps, pick ps j vs (F j) w ∧ ∀ b, F j b → b < w.heap.size ∧ B ≤ b) → (∀ j k b, j ≠ k → F j b → ¬ F k b) →
      Does P (execOp (puts a0 vs js).eval o) w fun v w' => Near B w w' F s.eat ∧ pick ps s.i (upd vs s.i v) (Grown w w' F s.eat) w') : Task P l (pick ps) B NoX w0 a0 s := by
  intro o' ho' w vs F he hd hdis
  rw [ho] at ho'
  obtain rfl := Option.some.inj ho'
  rw [puts_putAll, hjs]
  refine does_mono ?_ (h w vs F (eff_below.1 he) (fun j hj => ⟨(hd j hj).1, fun b hb => ⟨((hd j hj).2 b hb).1, ((hd j hj).2 b hb).2.resolve_right id⟩⟩) hdis)
  rintro v w' ⟨h1, h2⟩
  exact ⟨eff_below.2 h1.1, h1.2, h2⟩
end

/-- The value is known, given those of other operations. -/
def ValAt (f : (Nat → Value) → Value) (i : Nat) : Fact := fun vs _ _ => vs i = f vs
/-- A block of its own, with these cells. -/
def BlkAt (t : TypeId) (cs : (Nat → Value) → Array Value) (mk : Nat → Value) (i : Nat) : Fact := fun vs F w => ∃ g, vs i = mk g ∧ F g ∧ Blk w g t (cs vs)
/-- A row of its own. -/
def RowAt (t : TypeId) (n : Nat) (xs : List Value) (i : Nat) : Fact := fun vs F w => ∃ A c, vs i = .slice A n c ∧ w.ownsRow 0 t 1 (.slice A n c) n xs ∧ ∀ g, (Value.slice A n c).ownBlock = some g → F g
abbrev mkS (n : Nat) : Nat → Value := fun g => .slice (some ⟨g, 0, none⟩) n n
abbrev mkP : Nat → Value := fun g => .pointer (some ⟨g, 0, none⟩)
section
variable {p : Nat → Fact} {B : Nat} {X : Nat → Prop} {w0 : World} {s : Step}
theorem stays_val {f : (Nat → Value) → Value} (hp : p s.i = ValAt f s.i) (hf : ∀ vs us : Nat → Value, (∀ m ∈ s.deps, us m = vs m) → f us = f vs) : Stays p B X w0 s := by
  intro vs us F w w' _ _ h _ _ hv
  rw [hp] at hv ⊢
  unfold ValAt at *
  rw [h _ (by simp), hv, hf vs us fun m hm => h m (by simp [hm])]
theorem stays_const {v : Value} (hp : p s.i = ValAt (fun _ => v) s.i) : Stays p B X w0 s := stays_val hp fun _ _ _ => rfl
theorem stays_blk {t : TypeId} {cs : (Nat → Value) → Array Value} {mk : Nat → Value} (hp : p s.i = BlkAt t cs mk s.i) (hf : ∀ vs us : Nat → Value, (∀ m ∈ s.deps, us m = vs m) → cs us = cs vs) : Stays p B X w0 s := by
  intro vs us F w w' _ _ h _ hk hv
  rw [hp] at hv ⊢
  obtain ⟨g, h1, h2, h3⟩ := hv
  exact ⟨g, by rw [h _ (by simp), h1], h2, by rw [hf vs us fun m hm => h m (by simp [hm])]; exact (hk g h2).trans h3⟩
theorem stays_blkc {t : TypeId} {cs : Array Value} {mk : Nat → Value} (hp : p s.i = BlkAt t (fun _ => cs) mk s.i) : Stays p B X w0 s := stays_blk hp fun _ _ _ => rfl
theorem stays_row {t : TypeId} {n : Nat} {xs : List Value} (hp : p s.i = RowAt t n xs s.i) : Stays p B X w0 s := by
  intro vs us F w w' _ _ h _ hk hv
  rw [hp] at hv ⊢
  obtain ⟨A, c, h1, ⟨h2, h3⟩, h4⟩ := hv
  refine ⟨A, c, by rw [h _ (by simp), h1], ⟨h2, ?_⟩, h4⟩
  rcases h3 with h3 | ⟨g, cap, cur, hv, hg, hh, r⟩
  · exact .inl h3
  · exact .inr ⟨g, cap, cur, hv, hg, by rw [hk g (h4 g (by rw [hv]; rfl))]; exact hh, r⟩
theorem row_of {w w' : World} {t : TypeId} {n : Nat} {xs : List Value} {v : Value} {F : Nat → Nat → Prop} {eat : List Nat} {vs : Nat → Value} {i : Nat} (h : w'.ownsRow w.heap.size t 1 v n xs) : RowAt t n xs i (upd vs i v) (Grown w w' F eat) w' := by
  obtain ⟨A, c, rfl, -⟩ := own_form h
  exact ⟨A, c, upd_self _ _ _, own_base h (Nat.zero_le _), fun g e => .inl (h.lt g e)⟩
theorem blk_of {w w' : World} {t : TypeId} {cs : (Nat → Value) → Array Value} {mk : Nat → Value} {F : Nat → Nat → Prop} {eat : List Nat} {vs : Nat → Value} {i g : Nat} (h : Blk w' g t (cs (upd vs i (mk g)))) (hg : w.heap.size ≤ g) : BlkAt t cs mk i (upd vs i (mk g)) (Grown w w' F eat) w' :=
  ⟨g, upd_self _ _ _, .inl ⟨hg, h.lt⟩, h⟩
end
end Go.Proofs.YtefnagiffllhbaaGreat

/- RefG -/
namespace Go.Proofs.YtefnagiffllhbaaGreat
open Go.RowKit

theorem RLin.open_ {w : World} {v : Value} {l : List (Int × Nat)} (h : RLin w [v] l) : ∃ A n c, v = .slice A n c ∧ n ≤ maxLen := by
  obtain ⟨A, n, c, e, -, h1, h2, -⟩ := h
  simp at e
  exact ⟨A, n, c, e, by omega⟩

set_option maxRecDepth 100000 in
set_option maxHeartbeats 4000000 in
theorem rSmall_any (p : Nat) (pub vars : Int) (A : Option Addr) (n c : Nat) (rows : List RowR) (w : World) (hr : RSl 3 RRow w [.slice A n c] rows) :
    Calls Tryz.prog 69 #[tabV p pub vars (.slice A n c)] w fun e w' => SomeBool e ∧ Below w.heap.size w w' := by
  obtain ⟨A', n', c', he, hlen, hnc, hmx, hrd⟩ := hr
  simp at he
  obtain ⟨rfl, rfl, rfl⟩ := he
  subst hlen
  unfold tabV
  have gm : (rows.length : Int) ≤ 9223372036854775807 := by
    have h3 := hnc
    have h4 := hmx
    simp [maxLen] at h4
    omega
  obtain ⟨w0, hw0⟩ : ∃ w0, w0 = w.alloc (.cells #[.int .u64 (p : Int), .int .i64 pub, .int .i64 vars, .slice A rows.length c] 25) := ⟨_, rfl⟩
  have hb0 : Below w.heap.size w w0 := by rw [hw0]; exact (Below.refl _ w).alloc (Nat.le_refl _) _
  have hB : Blk w0 w.heap.size 25 #[.int .u64 (p : Int), .int .i64 pub, .int .i64 vars, .slice A rows.length c] := by rw [hw0]; exact Blk.new w _ _
  go_enter Tryz.func69, Tryz.ntmps69
  go_wp2_with fail
  rw [← hw0]
  have HW := Lib.hid hw0
  clear hw0
  go_loopw [3, 4] (fun s i wr => ∃ (j kk : Nat) (t : Int), j ≤ rows.length ∧ i = .int .i64 (j : Int) ∧ s = .int .i64 t ∧ wr = w0.drewN kk)
    (fun _ i _ => rows.length - (intOf i).toNat)
  case atStart => exact ⟨0, 0, rows.length, Nat.zero_le _, rfl, rfl, rfl⟩
  case round =>
    obtain ⟨j, kk, t, hj, rfl, rfl, rfl⟩ := hrel
    have s3 : (w0.drewN kk).cell? ⟨w.heap.size, 3, none⟩ = some (.slice A rows.length c) := (hB.drewN kk).cell 3
    by_cases hlt : j < rows.length
    · by_cases z1 : t ≤ 400
      · have d1 := decide_eq_true z1
        obtain ⟨b, q, rfl⟩ := hrd.base (by omega) (by omega)
        obtain ⟨cs, -, hc, x, y, z, rfl, hx1, hy1, hz1⟩ := (hrd.below kept_RRow (below_drewN hb0 kk)).get hlt
        obtain ⟨A1, n1, c1, rfl, m1⟩ := RLin.open_ hx1
        obtain ⟨A2, n2, c2, rfl, m2⟩ := RLin.open_ hy1
        obtain ⟨A3, n3, c3, rfl, m3⟩ := RLin.open_ hz1
        have h0 : (w0.drewN kk).cell? ⟨b, q + j * 3, none⟩ = some _ := hc 0 (by omega)
        have h1 : (w0.drewN kk).cell? ⟨b, q + j * 3 + 1, none⟩ = some _ := hc 1 (by omega)
        have h2 : (w0.drewN kk).cell? ⟨b, q + j * 3 + 2, none⟩ = some _ := hc 2 (by omega)
        have i1 : (0 : Int) ≤ (j : Int) := by omega
        have i2 : (j : Int) < (rows.length : Int) := by omega
        simp [maxLen] at m1 m2 m3 h0 h1 h2
        clear hc hx1 hy1 hz1
        simp at s3
        go_wp2_with fail
        go_quiet (fail)
        go_wp2
        go_roundw
        case rel => exact ⟨j + 1, _, _, by omega, by go_num, rfl, rfl⟩
        case measure => simp [intOf]; omega
      · have d1 := decide_eq_false z1
        go_wp2
        go_ret
        exact ⟨⟨_, rfl⟩, below_drewN hb0 _⟩
    · go_wp2
      go_ret
      exact ⟨⟨_, rfl⟩, below_drewN hb0 _⟩

set_option maxHeartbeats 400000 in
theorem fits_any (n : Nat) (w : World) (hn : n ≤ 4096) :
    Calls Tryz.prog 113 #[.int .i64 (n : Int)] w fun e w' => ∃ k, e = .returned (.int .i64 ((2 ^ k : Nat) : Int)) ∧ n ≤ 2 ^ k ∧ 2 ^ k ≤ 2 * n + 1 ∧ (1 ≤ n → 2 ^ k < 2 * n) ∧ w' = w := by
  go_enter Tryz.func113, Tryz.ntmps113
  go_wp2_with fail
  go_loopw [3] (fun i wr => ∃ (k m : Nat), i = .int .i64 (m : Int) ∧ Hid (m = 2 ^ k) ∧ 0 < m ∧ m ≤ 2 * n + 1 ∧ Hid (1 ≤ n → m < 2 * n) ∧ wr = w)
    (fun i _ => 2 * n + 1 - (intOf i).toNat)
  case atStart => exact ⟨0, 1, rfl, rfl, by omega, by omega, (fun _ => by omega), by simp⟩
  case round =>
    obtain ⟨k, m, rfl, HM, hm0, hm1, HL, rfl⟩ := hrel
    by_cases hlt : m < n
    · go_wp2
      go_roundw
      case rel =>
        refine ⟨k + 1, 2 * m, by go_num, ?_, by omega, by omega, (fun _ => by omega), by simp⟩
        show 2 * m = 2 ^ (k + 1)
        rw [HM.out, Nat.pow_succ, Nat.mul_comm]
      case measure => simp [intOf]; omega
    · go_wp2
      go_ret
      refine ⟨k, ?_, ?_, ?_, ?_, rfl⟩
      · rw [← HM.out]; rfl
      · rw [← HM.out]; omega
      · rw [← HM.out]; omega
      · rw [← HM.out]; exact HL.out
end Go.Proofs.YtefnagiffllhbaaGreat

/- RefJ -/
namespace Go.Proofs.YtefnagiffllhbaaGreat
open Go.RowKit

/-- A layout. -/
structure LayR where
  p : Nat
  block : Nat
  queries : Nat
  k : Nat
  n : Nat
  secret : Nat
  rows : Nat
  a : Nat
  b : Nat
def layCs (l : LayR) : Array Value := #[.int .u64 (l.p : Int), .int .i64 (l.block : Int), .int .i64 (l.queries : Int), .int .i64 (l.k : Int), .int .i64 (l.n : Int), .int .i64 (l.secret : Int), .int .i64 (l.rows : Int), .int .i64 (l.a : Int), .int .i64 (l.b : Int), .int .i64 (l.b : Int), .int .i64 (l.b : Int)]
def layZ : Array Value := #[.int .u64 0, .int .i64 0, .int .i64 0, .int .i64 0, .int .i64 0, .int .i64 0, .int .i64 0, .int .i64 0, .int .i64 0, .int .i64 0, .int .i64 0]
structure LayOk (l : LayR) : Prop where
  p : okP l.p = true
  b1 : 2 ≤ l.block
  b2 : l.block ≤ 256
  q1 : 1 ≤ l.queries
  q2 : l.queries ≤ 64
  k : l.k = l.block + l.queries
  n : ∃ j, l.n = 2 ^ j
  n2 : l.n ≤ 1024
  s : l.secret ≤ 65536
  r : l.rows ≤ 16384
  a : l.a ≤ 100000
  b : l.b ≤ 100000
  bj : l.block &&& (l.block - 1) = 0
  bd : (l.p - 1) % l.block = 0
  nd : (l.p - 1) % l.n = 0
  nl : l.n < l.p - 1
  nk : 2 * l.k ≤ l.n
  ae : l.a = (l.secret + l.block - 1) / l.block
  be : l.b = (l.rows + l.block - 1) / l.block
/-- The least power of two that is at least n, for n from 2 on. -/
def fitsN (n : Nat) : Nat := 2 ^ ((n - 1).log2 + 1)
theorem fitsN_of {n m : Nat} (hn : 2 ≤ n) (h : ∃ k, m = 2 ^ k) (h1 : n ≤ m) (h2 : m < 2 * n) : m = fitsN n := by
  obtain ⟨k, rfl⟩ := h
  cases k with
  | zero => simp at h1; omega
  | succ k =>
    unfold fitsN
    rw [Nat.pow_succ] at h1 h2
    have : (n - 1).log2 = k := (Nat.log2_eq_iff (by omega)).2 ⟨by omega, by rw [Nat.pow_succ]; omega⟩
    rw [this]
/-- What New is given: the table's numbers and the parameters. -/
structure NewIn where
  p : Nat
  pub : Int
  vars : Int
  nr : Nat
  bl : Int
  bw : Int
  qs : Int
def NewIn.n (x : NewIn) : Nat := x.bw.toNat * fitsN (2 * (x.bl.toNat + x.qs.toNat))
/-- The error of New for a valid table. -/
def newErr (x : NewIn) : Int :=
  if x.bl < 2 ∨ 256 < x.bl ∨ x.bl.toNat &&& (x.bl.toNat - 1) ≠ 0 ∨ x.qs < 1 ∨ 64 < x.qs ∨ (x.bw ≠ 1 ∧ x.bw ≠ 2 ∧ x.bw ≠ 4 ∧ x.bw ≠ 8) then 1
  else if (x.p - 1) % x.bl.toNat ≠ 0 ∨ (x.p - 1) % x.n ≠ 0 ∨ x.p - 1 ≤ x.n then 7
  else if 1024 < x.n then 3 else 0
/-- Its layout. -/
def newLay (x : NewIn) : LayR := ⟨x.p, x.bl.toNat, x.qs.toNat, x.bl.toNat + x.qs.toNat, x.n, (x.vars - 1 - x.pub).toNat, x.nr, ((x.vars - 1 - x.pub).toNat + x.bl.toNat - 1) / x.bl.toNat, (x.nr + x.bl.toNat - 1) / x.bl.toNat⟩
/-- A layout is that of a table and parameters. -/
structure LayFor (L : LayR) (x : NewIn) : Prop where
  p : L.p = x.p
  eq : L = newLay x
  err : newErr x = 0
  pub : 0 ≤ x.pub
  vars : x.pub < x.vars
theorem three_boxes {w w1 : World} {t1 t2 t3 : TypeId} {cs1 cs2 cs3 : Array Value} (hb : Below (((w.alloc (.cells cs1 t1)).alloc (.cells cs2 t2)).alloc (.cells cs3 t3)).heap.size (((w.alloc (.cells cs1 t1)).alloc (.cells cs2 t2)).alloc (.cells cs3 t3)) w1) :
    Blk w1 w.heap.size t1 cs1 ∧ Blk w1 (w.heap.size + 1) t2 cs2 ∧ Blk w1 (w.heap.size + 1 + 1) t3 cs3 ∧ Below w.heap.size w w1 := by
  refine ⟨(((Blk.new w t1 cs1).alloc _).alloc _).below hb (by simp; omega), ?_, ?_, below_chain ((((Below.refl _ w).alloc (Nat.le_refl _) _).alloc (by simp) _).alloc (by simp; omega) _) hb⟩
  · have := ((Blk.new (w.alloc (.cells cs1 t1)) t2 cs2).alloc (.cells cs3 t3)).below hb (by simp)
    simpa using this
  · have := (Blk.new ((w.alloc (.cells cs1 t1)).alloc (.cells cs2 t2)) t3 cs3).below hb (by simp)
    simpa using this

section
variable {w w0 : World} {g B : Nat} {t : TypeId} {cs : Array Value}
theorem set11_blk {y0 y1 y2 y3 y4 y5 y6 y7 y8 y9 y10 : Value} (k : Blk w g t #[y0, y1, y2, y3, y4, y5, y6, y7, y8, y9, y10]) (x0 x1 x2 x3 x4 x5 x6 x7 x8 x9 x10 : Value) :
    Blk (((((((((((w.setCell ⟨g, 0, none⟩ x0).setCell ⟨g, 1, none⟩ x1).setCell ⟨g, 2, none⟩ x2).setCell ⟨g, 3, none⟩ x3).setCell ⟨g, 4, none⟩ x4).setCell ⟨g, 5, none⟩ x5).setCell ⟨g, 6, none⟩ x6).setCell ⟨g, 7, none⟩ x7).setCell ⟨g, 8, none⟩ x8).setCell ⟨g, 9, none⟩ x9).setCell ⟨g, 10, none⟩ x10) g t #[x0, x1, x2, x3, x4, x5, x6, x7, x8, x9, x10] := by
  have h := ((((((((((k.set_ 0 x0).set_ 1 x1).set_ 2 x2).set_ 3 x3).set_ 4 x4).set_ 5 x5).set_ 6 x6).set_ 7 x7).set_ 8 x8).set_ 9 x9).set_ 10 x10
  simpa using h
theorem set11_below (h : Below B w0 w) (hg : B ≤ g) (x0 x1 x2 x3 x4 x5 x6 x7 x8 x9 x10 : Value) :
    Below B w0 (((((((((((w.setCell ⟨g, 0, none⟩ x0).setCell ⟨g, 1, none⟩ x1).setCell ⟨g, 2, none⟩ x2).setCell ⟨g, 3, none⟩ x3).setCell ⟨g, 4, none⟩ x4).setCell ⟨g, 5, none⟩ x5).setCell ⟨g, 6, none⟩ x6).setCell ⟨g, 7, none⟩ x7).setCell ⟨g, 8, none⟩ x8).setCell ⟨g, 9, none⟩ x9).setCell ⟨g, 10, none⟩ x10) :=
  ((((((((((h.setCell hg x0).setCell hg x1).setCell hg x2).setCell hg x3).setCell hg x4).setCell hg x5).setCell hg x6).setCell hg x7).setCell hg x8).setCell hg x9).setCell hg x10
end

theorem and_pred : ∀ b : Fin 257, 2 ≤ b.val → bits .and .i64 (b.val : Int) ((b.val : Int) - 1) = ((b.val &&& (b.val - 1) : Nat) : Int) := by decide +kernel

section
variable (p : Nat) (pub vars : Int) (A : Option Addr) (n c : Nat) (rows : List RowR) (bl bw qs : Int) (w : World)
/-- What New's callers have: a table, valid, and parameters. -/
def newArgs : Array Value := #[tabV p pub vars (.slice A n c), .agg #[.int .i64 bl, .int .i64 bw, .int .i64 qs]]
end

set_option linter.unusedVariables false in
set_option maxRecDepth 100000 in
set_option maxHeartbeats 1000000 in
theorem rNew_bad1 (p : Nat) (pub vars : Int) (A : Option Addr) (n c : Nat) (rows : List RowR) (bl bw qs : Int) (w : World) (hr : RSl 3 RRow w [.slice A n c] rows) (ht : tabOk p pub vars rows = true)
    (h : bl < 2) :
    Calls Tryz.prog 72 (newArgs p pub vars A n c bl bw qs) w fun e w' => e = .returned (.tuple #[.agg layZ, .int .i64 1]) ∧ Below w.heap.size w w' := by
  have hok := tabOk_p ht
  have hp := (okP_lt hok).2
  have HV := Lib.hid (fun w' (hb : Below w.heap.size w w') => rValid_any p pub vars A n c rows w' (kept_RSl kept_RRow _ _ _ _ hb hr) hp)
  rw [ht] at HV
  clear ht hok hp
  obtain ⟨A', n', c', he, hlen, -, -, -⟩ := hr
  simp at he
  obtain ⟨rfl, rfl, rfl⟩ := he
  subst hlen
  unfold newArgs tabV
  have hb0 : Below w.heap.size w (((w.alloc (.cells #[.int .u64 (p : Int), .int .i64 pub, .int .i64 vars, .slice A rows.length c] 25)).alloc (.cells #[.int .i64 bl, .int .i64 bw, .int .i64 qs] 27)).alloc (.cells layZ 34)) := (((Below.refl _ w).alloc (Nat.le_refl _) _).alloc (by simp) _).alloc (by simp; omega) _
  unfold layZ at hb0
  have d1 : decide (bl < 2) = true := decide_eq_true (by omega)
  go_enter Tryz.func72, Tryz.ntmps72
  go_wp2_with (go_at_call 70; refine (HV.out _ hb0).mono ?_; rintro e w1 ⟨rfl, hb⟩; obtain ⟨k2, k3, k4, hbw⟩ := three_boxes hb; have p0 : w1.cell? ⟨w.heap.size + 1, 0, none⟩ = some (.int .i64 bl) := k3.cell 0; have p1 : w1.cell? ⟨w.heap.size + 1, 1, none⟩ = some (.int .i64 bw) := k3.cell 1; have p2 : w1.cell? ⟨w.heap.size + 1, 2, none⟩ = some (.int .i64 qs) := k3.cell 2; have c4 := k4.cell; have f4 := k4.frozen; unfold layZ at c4; clear hb)
  have kW := set11_blk k4 (.int .u64 0) (.int .i64 0) (.int .i64 0) (.int .i64 0) (.int .i64 0) (.int .i64 0) (.int .i64 0) (.int .i64 0) (.int .i64 0) (.int .i64 0) (.int .i64 0)
  have hW := set11_below (g := w.heap.size + 1 + 1) hbw (by omega) (.int .u64 0) (.int .i64 0) (.int .i64 0) (.int .i64 0) (.int .i64 0) (.int .i64 0) (.int .i64 0) (.int .i64 0) (.int .i64 0) (.int .i64 0) (.int .i64 0)
  clear c4 f4 p0 p1 p2 k2 k3 k4
  revert kW hW
  generalize ((((((((((w1.setCell _ _).setCell _ _).setCell _ _).setCell _ _).setCell _ _).setCell _ _).setCell _ _).setCell _ _).setCell _ _).setCell _ _).setCell _ _ = wf
  intro kW hW
  have c4 := kW.cell
  exact bodyPost_ret (v := .tuple #[.agg layZ, .int .i64 1]) (by simp [results, Tryz.results72, go_sem, c4, layZ]) rfl ⟨rfl, hW⟩

set_option linter.unusedVariables false in
set_option maxRecDepth 100000 in
set_option maxHeartbeats 1000000 in
theorem rNew_bad2 (p : Nat) (pub vars : Int) (A : Option Addr) (n c : Nat) (rows : List RowR) (bl bw qs : Int) (w : World) (hr : RSl 3 RRow w [.slice A n c] rows) (ht : tabOk p pub vars rows = true)
    (h0 : 2 ≤ bl) (h : 256 < bl) :
    Calls Tryz.prog 72 (newArgs p pub vars A n c bl bw qs) w fun e w' => e = .returned (.tuple #[.agg layZ, .int .i64 1]) ∧ Below w.heap.size w w' := by
  have hok := tabOk_p ht
  have hp := (okP_lt hok).2
  have HV := Lib.hid (fun w' (hb : Below w.heap.size w w') => rValid_any p pub vars A n c rows w' (kept_RSl kept_RRow _ _ _ _ hb hr) hp)
  rw [ht] at HV
  clear ht hok hp
  obtain ⟨A', n', c', he, hlen, -, -, -⟩ := hr
  simp at he
  obtain ⟨rfl, rfl, rfl⟩ := he
  subst hlen
  unfold newArgs tabV
  have hb0 : Below w.heap.size w (((w.alloc (.cells #[.int .u64 (p : Int), .int .i64 pub, .int .i64 vars, .slice A rows.length c] 25)).alloc (.cells #[.int .i64 bl, .int .i64 bw, .int .i64 qs] 27)).alloc (.cells layZ 34)) := (((Below.refl _ w).alloc (Nat.le_refl _) _).alloc (by simp) _).alloc (by simp; omega) _
  unfold layZ at hb0
  have d1 : decide (bl < 2) = false := decide_eq_false (by omega)
  have d2 : decide (256 < bl) = true := decide_eq_true (by omega)
  go_enter Tryz.func72, Tryz.ntmps72
  go_wp2_with (go_at_call 70; refine (HV.out _ hb0).mono ?_; rintro e w1 ⟨rfl, hb⟩; obtain ⟨k2, k3, k4, hbw⟩ := three_boxes hb; have p0 : w1.cell? ⟨w.heap.size + 1, 0, none⟩ = some (.int .i64 bl) := k3.cell 0; have p1 : w1.cell? ⟨w.heap.size + 1, 1, none⟩ = some (.int .i64 bw) := k3.cell 1; have p2 : w1.cell? ⟨w.heap.size + 1, 2, none⟩ = some (.int .i64 qs) := k3.cell 2; have c4 := k4.cell; have f4 := k4.frozen; unfold layZ at c4; clear hb)
  have kW := set11_blk k4 (.int .u64 0) (.int .i64 0) (.int .i64 0) (.int .i64 0) (.int .i64 0) (.int .i64 0) (.int .i64 0) (.int .i64 0) (.int .i64 0) (.int .i64 0) (.int .i64 0)
  have hW := set11_below (g := w.heap.size + 1 + 1) hbw (by omega) (.int .u64 0) (.int .i64 0) (.int .i64 0) (.int .i64 0) (.int .i64 0) (.int .i64 0) (.int .i64 0) (.int .i64 0) (.int .i64 0) (.int .i64 0) (.int .i64 0)
  clear c4 f4 p0 p1 p2 k2 k3 k4
  revert kW hW
  generalize ((((((((((w1.setCell _ _).setCell _ _).setCell _ _).setCell _ _).setCell _ _).setCell _ _).setCell _ _).setCell _ _).setCell _ _).setCell _ _).setCell _ _ = wf
  intro kW hW
  have c4 := kW.cell
  exact bodyPost_ret (v := .tuple #[.agg layZ, .int .i64 1]) (by simp [results, Tryz.results72, go_sem, c4, layZ]) rfl ⟨rfl, hW⟩

set_option linter.unusedVariables false in
set_option maxRecDepth 100000 in
set_option maxHeartbeats 1000000 in
theorem rNew_bad3 (p : Nat) (pub vars : Int) (A : Option Addr) (n c : Nat) (rows : List RowR) (bl bw qs : Int) (w : World) (hr : RSl 3 RRow w [.slice A n c] rows) (ht : tabOk p pub vars rows = true)
    (h0 : 2 ≤ bl) (h1 : bl ≤ 256) (h : ¬ (bl.toNat &&& (bl.toNat - 1) = 0)) :
    Calls Tryz.prog 72 (newArgs p pub vars A n c bl bw qs) w fun e w' => e = .returned (.tuple #[.agg layZ, .int .i64 1]) ∧ Below w.heap.size w w' := by
  have hok := tabOk_p ht
  have hp := (okP_lt hok).2
  have HV := Lib.hid (fun w' (hb : Below w.heap.size w w') => rValid_any p pub vars A n c rows w' (kept_RSl kept_RRow _ _ _ _ hb hr) hp)
  rw [ht] at HV
  clear ht hok hp
  obtain ⟨A', n', c', he, hlen, -, -, -⟩ := hr
  simp at he
  obtain ⟨rfl, rfl, rfl⟩ := he
  subst hlen
  unfold newArgs tabV
  have hb0 : Below w.heap.size w (((w.alloc (.cells #[.int .u64 (p : Int), .int .i64 pub, .int .i64 vars, .slice A rows.length c] 25)).alloc (.cells #[.int .i64 bl, .int .i64 bw, .int .i64 qs] 27)).alloc (.cells layZ 34)) := (((Below.refl _ w).alloc (Nat.le_refl _) _).alloc (by simp) _).alloc (by simp; omega) _
  unfold layZ at hb0
  obtain ⟨b, rfl⟩ := Int.eq_ofNat_of_zero_le (show 0 ≤ bl by omega)
  simp only [Int.toNat_natCast] at *
  have hand := and_pred ⟨b, by omega⟩ (by show 2 ≤ b; omega)
  simp only at hand
  have d1 : decide ((b : Int) < 2) = false := decide_eq_false (by omega)
  have d2 : decide ((256 : Int) < (b : Int)) = false := decide_eq_false (by omega)
  generalize b &&& (b - 1) = r at *
  have d3 : ((r : Int) != 0) = true := by rw [bne_iff_ne]; omega
  have i1 : (1 : Int) ≤ (b : Int) := by omega
  have i3 : (b : Int) ≤ 256 := by omega
  have i2 : (0 : Int) ≤ (b : Int) - 1 := by omega
  clear h0 h1 h
  go_enter Tryz.func72, Tryz.ntmps72
  go_wp2_with (go_at_call 70; refine (HV.out _ hb0).mono ?_; rintro e w1 ⟨rfl, hb⟩; obtain ⟨k2, k3, k4, hbw⟩ := three_boxes hb; have p0 : w1.cell? ⟨w.heap.size + 1, 0, none⟩ = some (.int .i64 (b : Int)) := k3.cell 0; have p1 : w1.cell? ⟨w.heap.size + 1, 1, none⟩ = some (.int .i64 bw) := k3.cell 1; have p2 : w1.cell? ⟨w.heap.size + 1, 2, none⟩ = some (.int .i64 qs) := k3.cell 2; have c4 := k4.cell; have f4 := k4.frozen; unfold layZ at c4; clear hb)
  have kW := set11_blk k4 (.int .u64 0) (.int .i64 0) (.int .i64 0) (.int .i64 0) (.int .i64 0) (.int .i64 0) (.int .i64 0) (.int .i64 0) (.int .i64 0) (.int .i64 0) (.int .i64 0)
  have hW := set11_below (g := w.heap.size + 1 + 1) hbw (by omega) (.int .u64 0) (.int .i64 0) (.int .i64 0) (.int .i64 0) (.int .i64 0) (.int .i64 0) (.int .i64 0) (.int .i64 0) (.int .i64 0) (.int .i64 0) (.int .i64 0)
  clear c4 f4 p0 p1 p2 k2 k3 k4
  revert kW hW
  generalize ((((((((((w1.setCell _ _).setCell _ _).setCell _ _).setCell _ _).setCell _ _).setCell _ _).setCell _ _).setCell _ _).setCell _ _).setCell _ _).setCell _ _ = wf
  intro kW hW
  have c4 := kW.cell
  exact bodyPost_ret (v := .tuple #[.agg layZ, .int .i64 1]) (by simp [results, Tryz.results72, go_sem, c4, layZ]) rfl ⟨rfl, hW⟩

set_option linter.unusedVariables false in
set_option maxRecDepth 100000 in
set_option maxHeartbeats 1000000 in
theorem rNew_bad4 (p : Nat) (pub vars : Int) (A : Option Addr) (n c : Nat) (rows : List RowR) (bl bw qs : Int) (w : World) (hr : RSl 3 RRow w [.slice A n c] rows) (ht : tabOk p pub vars rows = true)
    (h0 : 2 ≤ bl) (h1 : bl ≤ 256) (h2 : bl.toNat &&& (bl.toNat - 1) = 0) (h : qs < 1) :
    Calls Tryz.prog 72 (newArgs p pub vars A n c bl bw qs) w fun e w' => e = .returned (.tuple #[.agg layZ, .int .i64 1]) ∧ Below w.heap.size w w' := by
  have hok := tabOk_p ht
  have hp := (okP_lt hok).2
  have HV := Lib.hid (fun w' (hb : Below w.heap.size w w') => rValid_any p pub vars A n c rows w' (kept_RSl kept_RRow _ _ _ _ hb hr) hp)
  rw [ht] at HV
  clear ht hok hp
  obtain ⟨A', n', c', he, hlen, -, -, -⟩ := hr
  simp at he
  obtain ⟨rfl, rfl, rfl⟩ := he
  subst hlen
  unfold newArgs tabV
  have hb0 : Below w.heap.size w (((w.alloc (.cells #[.int .u64 (p : Int), .int .i64 pub, .int .i64 vars, .slice A rows.length c] 25)).alloc (.cells #[.int .i64 bl, .int .i64 bw, .int .i64 qs] 27)).alloc (.cells layZ 34)) := (((Below.refl _ w).alloc (Nat.le_refl _) _).alloc (by simp) _).alloc (by simp; omega) _
  unfold layZ at hb0
  obtain ⟨b, rfl⟩ := Int.eq_ofNat_of_zero_le (show 0 ≤ bl by omega)
  simp only [Int.toNat_natCast] at *
  have hand := and_pred ⟨b, by omega⟩ (by show 2 ≤ b; omega)
  simp only at hand
  rw [h2] at hand
  have d1 : decide ((b : Int) < 2) = false := decide_eq_false (by omega)
  have d2 : decide ((256 : Int) < (b : Int)) = false := decide_eq_false (by omega)
  have d4 : decide (qs < 1) = true := decide_eq_true (by omega)
  have i1 : (1 : Int) ≤ (b : Int) := by omega
  have i3 : (b : Int) ≤ 256 := by omega
  have i2 : (0 : Int) ≤ (b : Int) - 1 := by omega
  have h2' := Lib.hid h2
  clear h0 h1 h2
  go_enter Tryz.func72, Tryz.ntmps72
  go_wp2_with (go_at_call 70; refine (HV.out _ hb0).mono ?_; rintro e w1 ⟨rfl, hb⟩; obtain ⟨k2, k3, k4, hbw⟩ := three_boxes hb; have p0 : w1.cell? ⟨w.heap.size + 1, 0, none⟩ = some (.int .i64 (b : Int)) := k3.cell 0; have p1 : w1.cell? ⟨w.heap.size + 1, 1, none⟩ = some (.int .i64 bw) := k3.cell 1; have p2 : w1.cell? ⟨w.heap.size + 1, 2, none⟩ = some (.int .i64 qs) := k3.cell 2; have c4 := k4.cell; have f4 := k4.frozen; unfold layZ at c4; clear hb)
  have kW := set11_blk k4 (.int .u64 0) (.int .i64 0) (.int .i64 0) (.int .i64 0) (.int .i64 0) (.int .i64 0) (.int .i64 0) (.int .i64 0) (.int .i64 0) (.int .i64 0) (.int .i64 0)
  have hW := set11_below (g := w.heap.size + 1 + 1) hbw (by omega) (.int .u64 0) (.int .i64 0) (.int .i64 0) (.int .i64 0) (.int .i64 0) (.int .i64 0) (.int .i64 0) (.int .i64 0) (.int .i64 0) (.int .i64 0) (.int .i64 0)
  clear c4 f4 p0 p1 p2 k2 k3 k4
  revert kW hW
  generalize ((((((((((w1.setCell _ _).setCell _ _).setCell _ _).setCell _ _).setCell _ _).setCell _ _).setCell _ _).setCell _ _).setCell _ _).setCell _ _).setCell _ _ = wf
  intro kW hW
  have c4 := kW.cell
  exact bodyPost_ret (v := .tuple #[.agg layZ, .int .i64 1]) (by simp [results, Tryz.results72, go_sem, c4, layZ]) rfl ⟨rfl, hW⟩

set_option linter.unusedVariables false in
set_option maxRecDepth 100000 in
set_option maxHeartbeats 1000000 in
theorem rNew_bad5 (p : Nat) (pub vars : Int) (A : Option Addr) (n c : Nat) (rows : List RowR) (bl bw qs : Int) (w : World) (hr : RSl 3 RRow w [.slice A n c] rows) (ht : tabOk p pub vars rows = true)
    (h0 : 2 ≤ bl) (h1 : bl ≤ 256) (h2 : bl.toNat &&& (bl.toNat - 1) = 0) (h3 : 1 ≤ qs) (h : 64 < qs) :
    Calls Tryz.prog 72 (newArgs p pub vars A n c bl bw qs) w fun e w' => e = .returned (.tuple #[.agg layZ, .int .i64 1]) ∧ Below w.heap.size w w' := by
  have hok := tabOk_p ht
  have hp := (okP_lt hok).2
  have HV := Lib.hid (fun w' (hb : Below w.heap.size w w') => rValid_any p pub vars A n c rows w' (kept_RSl kept_RRow _ _ _ _ hb hr) hp)
  rw [ht] at HV
  clear ht hok hp
  obtain ⟨A', n', c', he, hlen, -, -, -⟩ := hr
  simp at he
  obtain ⟨rfl, rfl, rfl⟩ := he
  subst hlen
  unfold newArgs tabV
  have hb0 : Below w.heap.size w (((w.alloc (.cells #[.int .u64 (p : Int), .int .i64 pub, .int .i64 vars, .slice A rows.length c] 25)).alloc (.cells #[.int .i64 bl, .int .i64 bw, .int .i64 qs] 27)).alloc (.cells layZ 34)) := (((Below.refl _ w).alloc (Nat.le_refl _) _).alloc (by simp) _).alloc (by simp; omega) _
  unfold layZ at hb0
  obtain ⟨b, rfl⟩ := Int.eq_ofNat_of_zero_le (show 0 ≤ bl by omega)
  simp only [Int.toNat_natCast] at *
  have hand := and_pred ⟨b, by omega⟩ (by show 2 ≤ b; omega)
  simp only at hand
  rw [h2] at hand
  have d1 : decide ((b : Int) < 2) = false := decide_eq_false (by omega)
  have d2 : decide ((256 : Int) < (b : Int)) = false := decide_eq_false (by omega)
  have d4 : decide (qs < 1) = false := decide_eq_false (by omega)
  have d5 : decide (64 < qs) = true := decide_eq_true (by omega)
  have i1 : (1 : Int) ≤ (b : Int) := by omega
  have i3 : (b : Int) ≤ 256 := by omega
  have i2 : (0 : Int) ≤ (b : Int) - 1 := by omega
  clear h0 h1 h2
  go_enter Tryz.func72, Tryz.ntmps72
  go_wp2_with (go_at_call 70; refine (HV.out _ hb0).mono ?_; rintro e w1 ⟨rfl, hb⟩; obtain ⟨k2, k3, k4, hbw⟩ := three_boxes hb; have p0 : w1.cell? ⟨w.heap.size + 1, 0, none⟩ = some (.int .i64 (b : Int)) := k3.cell 0; have p1 : w1.cell? ⟨w.heap.size + 1, 1, none⟩ = some (.int .i64 bw) := k3.cell 1; have p2 : w1.cell? ⟨w.heap.size + 1, 2, none⟩ = some (.int .i64 qs) := k3.cell 2; have c4 := k4.cell; have f4 := k4.frozen; unfold layZ at c4; clear hb)
  have kW := set11_blk k4 (.int .u64 0) (.int .i64 0) (.int .i64 0) (.int .i64 0) (.int .i64 0) (.int .i64 0) (.int .i64 0) (.int .i64 0) (.int .i64 0) (.int .i64 0) (.int .i64 0)
  have hW := set11_below (g := w.heap.size + 1 + 1) hbw (by omega) (.int .u64 0) (.int .i64 0) (.int .i64 0) (.int .i64 0) (.int .i64 0) (.int .i64 0) (.int .i64 0) (.int .i64 0) (.int .i64 0) (.int .i64 0) (.int .i64 0)
  clear c4 f4 p0 p1 p2 k2 k3 k4
  revert kW hW
  generalize ((((((((((w1.setCell _ _).setCell _ _).setCell _ _).setCell _ _).setCell _ _).setCell _ _).setCell _ _).setCell _ _).setCell _ _).setCell _ _).setCell _ _ = wf
  intro kW hW
  have c4 := kW.cell
  exact bodyPost_ret (v := .tuple #[.agg layZ, .int .i64 1]) (by simp [results, Tryz.results72, go_sem, c4, layZ]) rfl ⟨rfl, hW⟩

set_option linter.unusedVariables false in
set_option maxRecDepth 100000 in
set_option maxHeartbeats 1000000 in
theorem rNew_bad6 (p : Nat) (pub vars : Int) (A : Option Addr) (n c : Nat) (rows : List RowR) (bl bw qs : Int) (w : World) (hr : RSl 3 RRow w [.slice A n c] rows) (ht : tabOk p pub vars rows = true)
    (h0 : 2 ≤ bl) (h1 : bl ≤ 256) (h2 : bl.toNat &&& (bl.toNat - 1) = 0) (h3 : 1 ≤ qs) (h4 : qs ≤ 64) (h : bw ≠ 1 ∧ bw ≠ 2 ∧ bw ≠ 4 ∧ bw ≠ 8) :
    Calls Tryz.prog 72 (newArgs p pub vars A n c bl bw qs) w fun e w' => e = .returned (.tuple #[.agg layZ, .int .i64 1]) ∧ Below w.heap.size w w' := by
  have hok := tabOk_p ht
  have hp := (okP_lt hok).2
  have HV := Lib.hid (fun w' (hb : Below w.heap.size w w') => rValid_any p pub vars A n c rows w' (kept_RSl kept_RRow _ _ _ _ hb hr) hp)
  rw [ht] at HV
  clear ht hok hp
  obtain ⟨A', n', c', he, hlen, -, -, -⟩ := hr
  simp at he
  obtain ⟨rfl, rfl, rfl⟩ := he
  subst hlen
  unfold newArgs tabV
  have hb0 : Below w.heap.size w (((w.alloc (.cells #[.int .u64 (p : Int), .int .i64 pub, .int .i64 vars, .slice A rows.length c] 25)).alloc (.cells #[.int .i64 bl, .int .i64 bw, .int .i64 qs] 27)).alloc (.cells layZ 34)) := (((Below.refl _ w).alloc (Nat.le_refl _) _).alloc (by simp) _).alloc (by simp; omega) _
  unfold layZ at hb0
  obtain ⟨b, rfl⟩ := Int.eq_ofNat_of_zero_le (show 0 ≤ bl by omega)
  simp only [Int.toNat_natCast] at *
  have hand := and_pred ⟨b, by omega⟩ (by show 2 ≤ b; omega)
  simp only at hand
  rw [h2] at hand
  have d1 : decide ((b : Int) < 2) = false := decide_eq_false (by omega)
  have d2 : decide ((256 : Int) < (b : Int)) = false := decide_eq_false (by omega)
  have d4 : decide (qs < 1) = false := decide_eq_false (by omega)
  have d5 : decide (64 < qs) = false := decide_eq_false (by omega)
  have e1 : (bw != 1) = true := by rw [bne_iff_ne]; omega
  have e2 : (bw != 2) = true := by rw [bne_iff_ne]; omega
  have e4 : (bw != 4) = true := by rw [bne_iff_ne]; omega
  have e8 : (bw != 8) = true := by rw [bne_iff_ne]; omega
  have i1 : (1 : Int) ≤ (b : Int) := by omega
  have i3 : (b : Int) ≤ 256 := by omega
  have i2 : (0 : Int) ≤ (b : Int) - 1 := by omega
  clear h0 h1 h2 h3 h4 h
  go_enter Tryz.func72, Tryz.ntmps72
  go_wp2_with (go_at_call 70; refine (HV.out _ hb0).mono ?_; rintro e w1 ⟨rfl, hb⟩; obtain ⟨k2, k3, k4, hbw⟩ := three_boxes hb; have p0 : w1.cell? ⟨w.heap.size + 1, 0, none⟩ = some (.int .i64 (b : Int)) := k3.cell 0; have p1 : w1.cell? ⟨w.heap.size + 1, 1, none⟩ = some (.int .i64 bw) := k3.cell 1; have p2 : w1.cell? ⟨w.heap.size + 1, 2, none⟩ = some (.int .i64 qs) := k3.cell 2; have c4 := k4.cell; have f4 := k4.frozen; unfold layZ at c4; clear hb)
  have kW := set11_blk k4 (.int .u64 0) (.int .i64 0) (.int .i64 0) (.int .i64 0) (.int .i64 0) (.int .i64 0) (.int .i64 0) (.int .i64 0) (.int .i64 0) (.int .i64 0) (.int .i64 0)
  have hW := set11_below (g := w.heap.size + 1 + 1) hbw (by omega) (.int .u64 0) (.int .i64 0) (.int .i64 0) (.int .i64 0) (.int .i64 0) (.int .i64 0) (.int .i64 0) (.int .i64 0) (.int .i64 0) (.int .i64 0) (.int .i64 0)
  clear c4 f4 p0 p1 p2 k2 k3 k4
  revert kW hW
  generalize ((((((((((w1.setCell _ _).setCell _ _).setCell _ _).setCell _ _).setCell _ _).setCell _ _).setCell _ _).setCell _ _).setCell _ _).setCell _ _).setCell _ _ = wf
  intro kW hW
  have c4 := kW.cell
  exact bodyPost_ret (v := .tuple #[.agg layZ, .int .i64 1]) (by simp [results, Tryz.results72, go_sem, c4, layZ]) rfl ⟨rfl, hW⟩

end Go.Proofs.YtefnagiffllhbaaGreat
