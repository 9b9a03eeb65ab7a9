/-
  The document's side: ref19.Small; ref04.Fits.
-/
import Derived.Test.YtefnagiffllhbaaJN3
import Derived.Test.YtefnagiffllhbaaJN5

/- Own -/
namespace Go.Proofs.Ytefnagiffllhbaa
open Go.RowKit

/-- What an operation leaves: of the values of the operations, of the blocks that belong to it, of the world. -/
abbrev Fact := (Nat → Value) → (Nat → Prop) → World → Prop
/-- An operation of the group: its number, the operations whose facts it uses, and those of them whose blocks it takes over. -/
structure Step where
  i : Nat
  deps : List Nat
  eat : List Nat

def dstOf (l : List Oper) (j : Nat) : Option Tmp := (l[j]?).bind (·.dst)
def putAll (l : List Oper) (vs : Nat → Value) (a : Act) (js : List Nat) : Act := js.foldl (fun a j => a.put (dstOf l j) (vs j)) a
def pick : List (Nat × Fact) → Nat → Fact
  | [], _ => fun _ _ _ => True
  | (k, p) :: r, j => if Nat.beq k j then p else pick r j

theorem putAll_comm (l : List Oper) (vs : Nat → Value) (d : Option Tmp) (v : Value) : ∀ (js : List Nat) (a : Act), (∀ j ∈ js, ∀ t, d = some t → dstOf l j ≠ some t) → putAll l vs (a.put d v) js = (putAll l vs a js).put d v
  | [], _, _ => rfl
  | j :: js, a, h => by
    show putAll l vs ((a.put d v).put (dstOf l j) (vs j)) js = _
    rw [Act.put_comm a v (vs j) (h j (by simp))]
    exact putAll_comm l vs d v js _ fun k hk => h k (by simp [hk])
theorem putAll_congr (l : List Oper) {vs us : Nat → Value} : ∀ (js : List Nat) (a : Act), (∀ j ∈ js, vs j = us j) → putAll l vs a js = putAll l us a js
  | [], _, _ => rfl
  | j :: js, a, h => by
    show putAll l vs (a.put (dstOf l j) (vs j)) js = putAll l us (a.put (dstOf l j) (us j)) js
    rw [h j (by simp)]
    exact putAll_congr l js _ fun k hk => h k (by simp [hk])
def upd (vs : Nat → Value) (i : Nat) (v : Value) : Nat → Value := fun j => if j = i then v else vs j
theorem upd_self (vs : Nat → Value) (i : Nat) (v : Value) : upd vs i v i = v := if_pos rfl
theorem upd_ne {vs : Nat → Value} {i j : Nat} {v : Value} (h : j ≠ i) : upd vs i v j = vs j := if_neg h
theorem putAll_ins (l : List Oper) (vs : Nat → Value) (i : Nat) (v : Value) (f f' : Nat → Bool) : ∀ (js : List Nat) (a : Act), js.Nodup → i ∈ js → f i = false → f' i = true → (∀ j ∈ js, j ≠ i → f' j = f j) →
    (∀ j ∈ js, j ≠ i → ∀ t, dstOf l i = some t → dstOf l j ≠ some t) → putAll l (upd vs i v) a (js.filter f') = (putAll l vs a (js.filter f)).put (dstOf l i) v
  | [], _, _, h, _, _, _, _ => by cases h
  | j :: js, a, hn, hi, h0, h1, h2, h3 => by
    obtain ⟨hj, hn'⟩ := List.nodup_cons.1 hn
    by_cases e : j = i
    · subst e
      have hf : js.filter f' = js.filter f := List.filter_congr fun k hk => h2 k (by simp [hk]) (by rintro rfl; exact hj hk)
      rw [List.filter_cons_of_pos h1, List.filter_cons_of_neg (by rw [h0]; exact Bool.false_ne_true), hf]
      show putAll l (upd vs j v) (a.put (dstOf l j) (upd vs j v j)) _ = _
      rw [upd_self, putAll_comm _ _ _ _ _ _ (fun k hk => h3 k (by simp [(List.mem_filter.1 hk).1]) (by rintro rfl; exact hj (List.mem_filter.1 hk).1))]
      rw [putAll_congr l _ a fun k hk => upd_ne (by rintro rfl; exact hj (List.mem_filter.1 hk).1)]
    · have hi' : i ∈ js := by
        rcases List.mem_cons.1 hi with h | h
        · exact absurd h.symm e
        · exact h
      have key := fun a => putAll_ins l vs i v f f' js a hn' hi' h0 h1 (fun k hk => h2 k (by simp [hk])) fun k hk => h3 k (by simp [hk])
      have e2 := h2 j (by simp) e
      cases hfj : f j
      · rw [List.filter_cons_of_neg (by rw [e2, hfj]; exact Bool.false_ne_true), List.filter_cons_of_neg (by rw [hfj]; exact Bool.false_ne_true)]
        exact key a
      · rw [List.filter_cons_of_pos (by rw [e2, hfj]), List.filter_cons_of_pos hfj]
        show putAll l (upd vs i v) (a.put (dstOf l j) (upd vs i v j)) _ = (putAll l vs (a.put (dstOf l j) (vs j)) _).put _ _
        rw [upd_ne e]
        exact key _
theorem putAll_size (l : List Oper) (vs : Nat → Value) : ∀ (js : List Nat) (a : Act), (putAll l vs a js).tmps.size = a.tmps.size
  | [], _ => rfl
  | j :: js, a => by
    show (putAll l vs (a.put (dstOf l j) (vs j)) js).tmps.size = _
    rw [putAll_size l vs js]
    cases h : dstOf l j <;> simp [Act.put]
theorem putAll_miss (l : List Oper) (vs : Nat → Value) (t : Tmp) : ∀ (js : List Nat) (a : Act), (∀ j ∈ js, dstOf l j ≠ some t) → (putAll l vs a js).eval (.tmp t) = a.eval (.tmp t)
  | [], _, _ => rfl
  | j :: js, a, h => by
    show (putAll l vs (a.put (dstOf l j) (vs j)) js).eval _ = _
    rw [putAll_miss l vs t js _ fun k hk => h k (by simp [hk])]
    exact Act.eval_put fun d hd he => h j (by simp) (by rw [hd]; injection he with he; rw [he])
theorem putAll_hit (l : List Oper) (vs : Nat → Value) (t : Tmp) (j : Nat) (hd : dstOf l j = some t) : ∀ (js : List Nat) (a : Act), j ∈ js → (∀ k ∈ js, k ≠ j → dstOf l k ≠ some t) → (putAll l vs a js).eval (.tmp t) = if t < a.tmps.size then vs j else undef
  | [], _, h, _ => by cases h
  | k :: js, a, h, hne => by
    show (putAll l vs (a.put (dstOf l k) (vs k)) js).eval _ = _
    by_cases hj : j ∈ js
    · rw [putAll_hit l vs t j hd js _ hj fun m hm => hne m (by simp [hm])]
      have e : (a.put (dstOf l k) (vs k)).tmps.size = a.tmps.size := by cases h : dstOf l k <;> simp [Act.put]
      rw [e]
    · obtain rfl : j = k := by
        rcases List.mem_cons.1 h with h | h
        · exact h
        · exact absurd h hj
      rw [putAll_miss l vs t js _ fun m hm => hne m (by simp [hm]) fun e => hj (e ▸ hm), hd]
      by_cases ht : t < a.tmps.size <;> simp [Act.eval, Act.put, ht]

/-- Nothing has changed but blocks from B on, and those of X. -/
def Eff (B : Nat) (X : Nat → Prop) (w w' : World) : Prop := w'.os = w.os ∧ w'.tape = w.tape ∧ w'.output = w.output ∧ w.heap.size ≤ w'.heap.size ∧ ∀ b, b < B → ¬ X b → w'.heap[b]? = w.heap[b]?
theorem eff_trans {B : Nat} {X : Nat → Prop} {a b c : World} (h : Eff B X a b) (k : Eff B X b c) : Eff B X a c :=
  ⟨k.1.trans h.1, k.2.1.trans h.2.1, k.2.2.1.trans h.2.2.1, Nat.le_trans h.2.2.2.1 k.2.2.2.1, fun g h1 h2 => (k.2.2.2.2 g h1 h2).trans (h.2.2.2.2 g h1 h2)⟩
theorem eff_refl (B : Nat) (X : Nat → Prop) (w : World) : Eff B X w w := ⟨rfl, rfl, rfl, Nat.le_refl _, fun _ _ _ => rfl⟩
/-- The blocks that belong to operation i. -/
def Own (B : Nat) (X : Nat → Prop) (own : Nat → Nat) (w : World) (i : Nat) : Nat → Prop := fun b => b < w.heap.size ∧ (B ≤ b ∨ X b) ∧ own b = i
/-- One operation's run. -/
def Does (P : Program) (x : Sem Next) (w : World) (K : Value → World → Prop) : Prop :=
  (∃ v w', x.run P w = .ok (.value v) w' ∧ K v w') ∨ (∃ w', x.run P w = .ok .skip w' ∧ K undef w') ∨ (∃ f vals, x.run P w = .ok (.enter f vals) w ∧ Calls P f vals w fun e w' => ∃ v, e = .returned v ∧ K v w')
theorem does_wp {P : Program} {o : Oper} {a : Act} {w : World} {K : Act → World → Prop} {Q : Exit → Act → World → Prop} (h : Does P (execOp a.eval o) w fun v w' => K (a.put o.dst v) w') : o.wp P a w K Q := by
  unfold Oper.wp
  rcases h with ⟨v, w', h1, h2⟩ | ⟨w', h1, h2⟩ | ⟨f, vals, h1, h2⟩
  · rw [h1]; exact h2
  · rw [h1]; exact h2
  · rw [h1]
    refine Calls.mono h2 ?_
    rintro e w' ⟨v, rfl, h3⟩
    exact h3
theorem does_val {P : Program} {x : Sem Next} {w w' : World} {K : Value → World → Prop} {v : Value} (h : x.run P w = .ok (.value v) w') (hK : K v w') : Does P x w K := .inl ⟨v, w', h, hK⟩
theorem does_skip {P : Program} {x : Sem Next} {w w' : World} {K : Value → World → Prop} (h : x.run P w = .ok .skip w') (hK : K undef w') : Does P x w K := .inr (.inl ⟨w', h, hK⟩)
theorem does_call {P : Program} {x : Sem Next} {w : World} {K : Value → World → Prop} {f : FuncId} {vals : Array Value} {post : Ending → World → Prop} (h : x.run P w = .ok (.enter f vals) w) (hc : Calls P f vals w post) (hK : ∀ e w', post e w' → ∃ v, e = .returned v ∧ K v w') : Does P x w K := .inr (.inr ⟨f, vals, h, hc.mono hK⟩)

def edge (l : List Oper) (i j : Nat) : Bool := match l[i]? with | some o => (o.after.any fun e => Region.binds .any e && e.on == j) | none => false
def operTmps (l : List Oper) (i : Nat) : List Tmp := match l[i]? with | some o => (o.op.operands.toList.filterMap fun | .tmp t => some t | _ => none) | none => []
def okTopo (l : List Oper) (L0 : Array Bool) : List Nat → List Nat → Bool
  | _, [] => true
  | pre, i :: rest => (match l[i]? with | some o => o.guard.isNone && !L0.getD i true && o.after.all (fun e => !Region.binds .any e || L0.getD e.on false || (pre.contains e.on && decide (e.on < l.length))) | none => true) && okTopo l L0 (i :: pre) rest
def okOwn (l : List Oper) (T : List Step) (L0 : Array Bool) : Bool :=
  L0.size == l.length && (T.map (·.i)).Nodup && okTopo l L0 [] (T.map (·.i)) &&
  (T.all fun s => T.all fun t => s.i == t.i || (dstOf l s.i).isNone || dstOf l s.i != dstOf l t.i) &&
  (T.all fun s => (operTmps l s.i).all fun x => T.all fun t => dstOf l t.i != some x || s.deps.contains t.i) &&
  (T.all fun s => s.deps.all fun j => (T.any fun t => t.i == j) && (decide (l.length ≤ j) || edge l s.i j)) &&
  (T.all fun s => s.eat.all fun j => s.deps.contains j && T.all fun t => t.i == s.i || !t.deps.contains j) &&
  ((List.range l.length).all fun i => L0.getD i true || (T.any fun t => t.i == i) || ((T.all fun t => decide (l.length ≤ t.i) || edge l i t.i) || (List.range l.length).any fun j => !L0.getD j true && !(T.any fun t => t.i == j) && edge l i j))

/-- An operation's task: whatever has come before, it leaves its fact. -/
def Task (P : Program) (l : List Oper) (p : Nat → Fact) (B : Nat) (X : Nat → Prop) (w0 : World) (a0 : Act) (s : Step) : Prop :=
  ∀ (o : Oper), l[s.i]? = some o → ∀ (w : World) (vs : Nat → Value) (F : Nat → Nat → Prop), Eff B X w0 w → (∀ j ∈ s.deps, p j vs (F j) w ∧ ∀ b, F j b → b < w.heap.size ∧ (B ≤ b ∨ X b)) → (∀ j k b, j ≠ k → F j b → ¬ F k b) →
    Does P (execOp (putAll l vs a0 (s.deps.filter (· < l.length))).eval o) w fun v w' => Eff B X w w' ∧ (∀ b, b < w.heap.size → (∀ j ∈ s.eat, ¬ F j b) → w'.heap[b]? = w.heap[b]?) ∧ p s.i (upd vs s.i v) (fun b => (w.heap.size ≤ b ∧ b < w'.heap.size) ∨ ∃ j ∈ s.eat, F j b) w'
/-- A fact stays while its blocks stay. -/
def Stays (p : Nat → Fact) (B : Nat) (X : Nat → Prop) (w0 : World) (s : Step) : Prop :=
  ∀ (vs us : Nat → Value) (F : Nat → Prop) (w w' : World), Eff B X w0 w → Eff B X w w' → (∀ m ∈ s.i :: s.deps, us m = vs m) → (∀ b, F b → b < w.heap.size) → (∀ b, F b → w'.heap[b]? = w.heap[b]?) → p s.i vs F w → p s.i us F w'

section
variable {P : Program} {l : List Oper} {Q : Exit → Act → World → Prop} {R : World → World → Prop} {T : List Step} {p : Nat → Fact} {B : Nat} {X : Nat → Prop} {w0 : World} {a0 : Act} {L0 : Array Bool}

structure OwnAt (l : List Oper) (T : List Step) (p : Nat → Fact) (B : Nat) (X : Nat → Prop) (w0 : World) (a0 : Act) (L0 L : Array Bool) (vs : Nat → Value) (own : Nat → Nat) (a : Act) (w : World) : Prop where
  size : L.size = l.length
  old : ∀ i : Nat, L0.getD i true = true → L.getD i true = true
  new : ∀ i : Nat, L.getD i true = true → L0.getD i true = true ∨ ∃ t ∈ T, t.i = i
  eff : Eff B X w0 w
  act : a = putAll l vs a0 ((T.map (·.i)).filter fun j => L.getD j true && !L0.getD j true)
  facts : ∀ s ∈ T, L.getD s.i true = true → (∀ k ∈ T, s.i ∈ k.eat → L.getD k.i true = false) → p s.i vs (Own B X own w s.i) w

theorem edge_spec {i j : Nat} (h : edge l i j = true) : ∃ o, l[i]? = some o ∧ ∃ e ∈ o.after, Region.binds .any e = true ∧ e.on = j := by
  unfold edge at h
  split at h
  · rename_i o ho
    simp only [Array.any_eq_true] at h
    obtain ⟨k, hk, he⟩ := h
    simp only [Bool.and_eq_true, beq_iff_eq] at he
    exact ⟨o, ho, o.after[k], Array.getElem_mem hk, he.1, he.2⟩
  · cases h
theorem okTopo_spec : ∀ (js pre : List Nat), okTopo l L0 pre js = true → ∀ i ∈ js, ∀ o, l[i]? = some o → o.guard = none ∧ L0.getD i true = false
  | [], _, _, i, hi, _, _ => by cases hi
  | j :: js, pre, h, i, hi, o, ho => by
    unfold okTopo at h
    rw [Bool.and_eq_true] at h
    rcases List.mem_cons.1 hi with rfl | hi
    · have h1 := h.1
      rw [ho] at h1
      simp only [Bool.and_eq_true, Bool.not_eq_true', Option.isNone_iff_eq_none] at h1
      exact ⟨h1.1.1, h1.1.2⟩
    · exact okTopo_spec js _ h.2 i hi o ho
/-- The first of the list that has not come up can come up. -/
theorem okTopo_ready {L : Array Bool} (hs : L.size = l.length) (h0 : ∀ i : Nat, L0.getD i true = true → L.getD i true = true) (hsz : L0.size = l.length) : ∀ (js pre : List Nat), okTopo l L0 pre js = true → (∀ i ∈ pre, L.getD i true = true) → (∃ i ∈ js, L.getD i true = false) → ∃ i ∈ js, i ∈ Region.ready .any l.toArray L
  | [], _, _, _, ⟨i, hi, _⟩ => by cases hi
  | j :: js, pre, h, hp, hx => by
    unfold okTopo at h
    rw [Bool.and_eq_true] at h
    cases hj : L.getD j true
    · refine ⟨j, by simp, ?_⟩
      have hlt : j < l.length := by
        rcases Nat.lt_or_ge j l.length with h | h
        · exact h
        · rw [← hs] at h
          simp [Nat.not_lt.2 h] at hj
      have ho : l[j]? = some l[j] := List.getElem?_eq_getElem hlt
      have h1 := h.1
      rw [ho] at h1
      simp only [Bool.and_eq_true] at h1
      have h2 := h1.2
      rw [Array.all_eq_true] at h2
      refine mem_ready.2 ⟨hj, l[j], by rw [List.getElem?_toArray]; exact ho, fun e he hb => ?_⟩
      obtain ⟨k, hk, rfl⟩ := Array.getElem_of_mem he
      have h3 := h2 k hk
      rw [hb] at h3
      simp only [Bool.not_true, Bool.false_or, Bool.or_eq_true] at h3
      have key : ∀ n : Nat, n < l.length → L.getD n true = true → L.getD n false = true := fun n hn h => by
        rw [← hs] at hn
        simpa [hn] using h
      rcases h3 with h3 | h3
      · have hn : l.toArray[j].after[k].on < l.length := by
          rcases Nat.lt_or_ge (l[j].after[k].on) l.length with h | h
          · exact h
          · rw [← hsz] at h
            have h3' : L0.getD (l[j].after[k].on) false = true := h3
            simp [Nat.not_lt.2 h] at h3'
        refine key _ hn (h0 _ ?_)
        rw [← hsz] at hn
        have h3' : L0.getD (l[j].after[k].on) false = true := h3
        have hn' : l[j].after[k].on < L0.size := hn
        simp [hn'] at h3' ⊢
        exact h3'
      · rw [Bool.and_eq_true, decide_eq_true_eq, List.contains_iff_mem] at h3
        exact key _ h3.2 (hp _ h3.1)
    · obtain ⟨i, hi, h'⟩ := hx
      have hne : i ∈ js := by
        rcases List.mem_cons.1 hi with rfl | hi
        · rw [hj] at h'; cases h'
        · exact hi
      obtain ⟨k, hk, hr⟩ := okTopo_ready hs h0 hsz js (j :: pre) h.2 (by intro i hi; rcases List.mem_cons.1 hi with rfl | hi; exact hj; exact hp i hi) ⟨i, hne, h'⟩
      exact ⟨k, by simp [hk], hr⟩

theorem does_mono {P : Program} {x : Sem Next} {w : World} {K K' : Value → World → Prop} (h : ∀ v w', K v w' → K' v w') (hd : Does P x w K) : Does P x w K' := by
  rcases hd with ⟨v, w', h1, h2⟩ | ⟨w', h1, h2⟩ | ⟨f, vals, h1, h2⟩
  · exact .inl ⟨v, w', h1, h _ _ h2⟩
  · exact .inr (.inl ⟨w', h1, h _ _ h2⟩)
  · exact .inr (.inr ⟨f, vals, h1, h2.mono fun e w' ⟨v, he, hk⟩ => ⟨v, he, h _ _ hk⟩⟩)
structure OkOwn (l : List Oper) (T : List Step) (L0 : Array Bool) : Prop where
  size : L0.size = l.length
  nodup : (T.map (·.i)).Nodup
  topo : okTopo l L0 [] (T.map (·.i)) = true
  dst : ∀ s ∈ T, ∀ t ∈ T, s.i ≠ t.i → ∀ x, dstOf l s.i = some x → dstOf l t.i ≠ some x
  opers : ∀ s ∈ T, ∀ x ∈ operTmps l s.i, ∀ t ∈ T, dstOf l t.i = some x → t.i ∈ s.deps
  deps : ∀ s ∈ T, ∀ j ∈ s.deps, (∃ t ∈ T, t.i = j) ∧ (l.length ≤ j ∨ edge l s.i j = true)
  eat : ∀ s ∈ T, ∀ j ∈ s.eat, j ∈ s.deps ∧ ∀ t ∈ T, t.i ≠ s.i → j ∉ t.deps
  tail : ∀ i, i < l.length → L0.getD i true = false → (∀ t ∈ T, t.i ≠ i) → (∀ t ∈ T, l.length ≤ t.i ∨ edge l i t.i = true) ∨ ∃ j, j < l.length ∧ L0.getD j true = false ∧ (∀ t ∈ T, t.i ≠ j) ∧ edge l i j = true
theorem okOwn_spec (h : okOwn l T L0 = true) : OkOwn l T L0 := by
  unfold okOwn at h
  simp only [Bool.and_eq_true, List.all_eq_true, List.any_eq_true, Bool.or_eq_true, beq_iff_eq, decide_eq_true_eq, List.contains_iff_mem, bne_iff_ne, ne_eq, Bool.not_eq_true', Option.isNone_iff_eq_none] at h
  obtain ⟨⟨⟨⟨⟨⟨⟨h1, h2⟩, h3⟩, h4⟩, h5⟩, h6⟩, h7⟩, h8⟩ := h
  refine ⟨h1, h2, h3, ?_, ?_, ?_, ?_, ?_⟩
  · intro s hs t ht hne x hx
    rcases h4 s hs t ht with (e | e) | e
    · exact absurd e hne
    · rw [e] at hx; cases hx
    · rw [hx] at e; exact fun e' => e e'.symm
  · intro s hs x hx t ht e
    rcases h5 s hs x hx t ht with h | h
    · exact absurd e h
    · exact h
  · intro s hs j hj
    exact h6 s hs j hj
  · intro s hs j hj
    obtain ⟨h, h'⟩ := h7 s hs j hj
    refine ⟨h, fun t ht hne hd => ?_⟩
    rcases h' t ht with e | e
    · exact hne e
    · rw [← Bool.not_eq_true, List.contains_iff_mem] at e
      exact e hd
  · intro i hi h0 hT
    rcases h8 i (List.mem_range.2 hi) with (h | ⟨t, ht, e⟩) | h | ⟨j, hj, h⟩
    · rw [h0] at h; cases h
    · exact absurd e (hT t ht)
    · exact .inl h
    · refine .inr ⟨j, List.mem_range.1 hj, h.1.1, fun t ht e => ?_, h.2⟩
      have := h.1.2
      rw [← Bool.not_eq_true, List.any_eq_true] at this
      exact this ⟨t, ht, by rw [beq_iff_eq]; exact e⟩

theorem getD_of_lt {L : Array Bool} {i : Nat} (h : i < L.size) (a b : Bool) : L.getD i a = L.getD i b := by simp [h]
theorem set_getD {L : Array Bool} {i j : Nat} : (L.setIfInBounds i true).getD j true = true ↔ L.getD j true = true ∨ j = i := by
  by_cases e : i = j
  · subst e
    by_cases h : i < L.size <;> simp [h]
  · rw [getD_set_ne true e]
    exact ⟨.inl, fun h => h.resolve_right fun h => e h.symm⟩
theorem set_getD_ff {L : Array Bool} {i j : Nat} (h : (L.setIfInBounds i true).getD j true = false) : L.getD j true = false := by
  cases hj : L.getD j true
  · rfl
  · have := set_getD (i := i).2 (.inl hj)
    rw [h] at this; cases this

/-- The blocks of an operation behind the operation s. -/
def ownNext (own : Nat → Nat) (w : World) (s : Step) : Nat → Nat := fun b => if b < w.heap.size ∧ own b ∉ s.eat then own b else s.i

structure OwnMore (l : List Oper) (T : List Step) (L : Array Bool) (own : Nat → Nat) (w : World) : Prop where
  own : ∀ b, b < w.heap.size → L.getD (own b) true = true
  deps : ∀ t ∈ T, L.getD t.i true = true → ∀ j ∈ t.deps, L.getD j true = true

theorem own_act (ok : OkOwn l T L0) {L : Array Bool} {vs : Nat → Value} {own : Nat → Nat} {a : Act} {w : World} (hsel : Region.noSelect l.toArray = true) (I : OwnAt l T p B X w0 a0 L0 L vs own a w) {s : Step} (hs : s ∈ T) {o : Oper} (ho : l[s.i]? = some o) (hd : ∀ j ∈ s.deps, L.getD j true = true) :
    execOp a.eval o = execOp (putAll l vs a0 (s.deps.filter (· < l.length))).eval o := by
  refine execOp_congr o (fun cs b => Region.noSelect_spec hsel s.i o cs b (by rw [List.getElem?_toArray]; exact ho)) fun x hx => ?_
  cases x with
  | tmp t =>
    have ht : t ∈ operTmps l s.i := by
      unfold operTmps
      rw [ho]
      exact List.mem_filterMap.2 ⟨.tmp t, by simpa using hx, rfl⟩
    have hTs : ∀ j ∈ T.map (·.i), dstOf l j = some t → j ∈ s.deps := fun j hj e => by
      obtain ⟨u, hu, rfl⟩ := List.mem_map.1 hj
      exact ok.opers s hs t ht u hu e
    have hdd : ∀ j ∈ s.deps, j ∈ T.map (·.i) := fun j hj => by
      obtain ⟨⟨u, hu, e⟩, -⟩ := ok.deps s hs j hj
      exact List.mem_map.2 ⟨u, hu, e⟩
    have huni : ∀ j ∈ T.map (·.i), ∀ k ∈ T.map (·.i), k ≠ j → dstOf l j = some t → dstOf l k ≠ some t := fun j hj k hk hne e => by
      obtain ⟨u, hu, rfl⟩ := List.mem_map.1 hj
      obtain ⟨v, hv, rfl⟩ := List.mem_map.1 hk
      exact ok.dst u hu v hv (fun e => hne e.symm) t e
    have hlen : ∀ j, dstOf l j = some t → j < l.length := fun j e => by
      rcases Nat.lt_or_ge j l.length with h | h
      · exact h
      · unfold dstOf at e; rw [List.getElem?_eq_none h] at e; cases e
    rw [I.act]
    by_cases hex : ∃ j ∈ s.deps, dstOf l j = some t
    · obtain ⟨j, hj, e⟩ := hex
      have hjT := hdd j hj
      have h0 : L0.getD j true = false := by
        obtain ⟨u, hu, rfl⟩ := List.mem_map.1 hjT
        exact (okTopo_spec _ _ ok.topo _ hjT _ (List.getElem?_eq_getElem (hlen _ e))).2
      rw [putAll_hit l vs t j e _ _ (List.mem_filter.2 ⟨hjT, by rw [hd j hj, h0]; rfl⟩) fun k hk hne => huni j hjT k (List.mem_filter.1 hk).1 hne e,
        putAll_hit l vs t j e _ _ (List.mem_filter.2 ⟨hj, by simpa using hlen j e⟩) fun k hk hne => huni j hjT k (hdd k (List.mem_filter.1 hk).1) hne e]
    · rw [putAll_miss l vs t _ _ fun j hj e => hex ⟨j, hTs j (List.mem_filter.1 hj).1 e, e⟩, putAll_miss l vs t _ _ fun j hj e => hex ⟨j, (List.mem_filter.1 hj).1, e⟩]
  | _ => rfl

theorem own_step (ok : OkOwn l T L0) {L : Array Bool} {vs : Nat → Value} {own : Nat → Nat} {a : Act} {w : World} (I : OwnAt l T p B X w0 a0 L0 L vs own a w) (J : OwnMore l T L own w) (hB : B ≤ w0.heap.size)
    (hst : ∀ s ∈ T, Stays p B X w0 s) {s : Step} (hs : s ∈ T) {o : Oper} (ho : l[s.i]? = some o) (hL : L.getD s.i true = false) (hd : ∀ j ∈ s.deps, L.getD j true = true) {v : Value} {w' : World}
    (he : Eff B X w w') (hk : ∀ b, b < w.heap.size → (∀ j ∈ s.eat, ¬ Own B X own w j b) → w'.heap[b]? = w.heap[b]?)
    (hp : p s.i (upd vs s.i v) (fun b => (w.heap.size ≤ b ∧ b < w'.heap.size) ∨ ∃ j ∈ s.eat, Own B X own w j b) w') :
    OwnAt l T p B X w0 a0 L0 (L.setIfInBounds s.i true) (upd vs s.i v) (ownNext own w s) (a.put o.dst v) w' ∧ OwnMore l T (L.setIfInBounds s.i true) (ownNext own w s) w' := by
  have hsi : s.i < l.length := (List.getElem?_eq_some_iff.1 ho).1
  have hoi : dstOf l s.i = o.dst := by simp [dstOf, ho]
  have hsT : s.i ∈ T.map (·.i) := List.mem_map.2 ⟨s, hs, rfl⟩
  have hL0 : L0.getD s.i true = false := (okTopo_spec _ _ ok.topo _ hsT _ ho).2
  have hne : ∀ b, b < w.heap.size → own b ≠ s.i := fun b hb e => by
    have := J.own b hb
    rw [e, hL] at this
    cases this
  have huniq : ∀ t ∈ T, t.i = s.i → t = s := fun t ht e => by
    have hn := ok.nodup
    obtain ⟨i, hi, rfl⟩ := List.getElem_of_mem ht
    obtain ⟨j, hj, rfl⟩ := List.getElem_of_mem hs
    have := (List.getElem_inj (h₀ := by simpa using hi) (h₁ := by simpa using hj) hn).1 (by simpa using e)
    subst this
    rfl
  refine ⟨⟨by simp [I.size], fun i h => set_getD.2 (.inl (I.old i h)), fun i h => ?_, eff_trans I.eff he, ?_, ?_⟩, ⟨fun b hb => ?_, fun t ht h j hj => ?_⟩⟩
  · rcases set_getD.1 h with h | rfl
    · exact I.new i h
    · exact .inr ⟨s, hs, rfl⟩
  · rw [I.act, ← hoi]
    refine (putAll_ins l vs s.i v _ _ _ a0 ok.nodup hsT (by rw [hL]; rfl) (by rw [set_getD.2 (.inr rfl), hL0]; rfl) (fun j _ hne => ?_) (fun j hj hne t e => ?_)).symm
    · have : (L.setIfInBounds s.i true).getD j true = L.getD j true := getD_set_ne true fun e => hne e.symm
      rw [this]
    · obtain ⟨u, hu, rfl⟩ := List.mem_map.1 hj
      exact ok.dst s hs u hu (fun e => hne e.symm) t e
  · intro t ht hLt hea
    by_cases e : t.i = s.i
    · obtain rfl := huniq t ht e
      have e2 : Own B X (ownNext own w t) w' t.i = (fun b => (w.heap.size ≤ b ∧ b < w'.heap.size) ∨ ∃ j ∈ t.eat, Own B X own w j b) := by
        funext b
        apply propext
        unfold Own ownNext
        constructor
        · rintro ⟨h1, h2, h3⟩
          rcases Nat.lt_or_ge b w.heap.size with h | h
          · by_cases hm : own b ∈ t.eat
            · exact .inr ⟨own b, hm, h, h2, rfl⟩
            · rw [if_pos ⟨h, hm⟩] at h3
              exact absurd h3 (hne b h)
          · exact .inl ⟨h, h1⟩
        · rintro (⟨h1, h2⟩ | ⟨j, hj, h1, h2, rfl⟩)
          · exact ⟨h2, .inl (Nat.le_trans hB (Nat.le_trans I.eff.2.2.2.1 h1)), if_neg fun h => by omega⟩
          · exact ⟨Nat.lt_of_lt_of_le h1 he.2.2.2.1, h2, if_neg fun h => h.2 hj⟩
      rw [e2]
      exact hp
    · have hLt' : L.getD t.i true = true := (set_getD.1 hLt).resolve_right e
      have hte : t.i ∉ s.eat := fun h => by
        have := hea s hs h
        rw [set_getD.2 (.inr rfl)] at this
        cases this
      have hf := I.facts t ht hLt' fun k hk h => set_getD_ff (hea k hk h)
      have e2 : Own B X (ownNext own w s) w' t.i = Own B X own w t.i := by
        funext b
        apply propext
        unfold Own ownNext
        constructor
        · rintro ⟨h1, h2, h3⟩
          by_cases hm : b < w.heap.size ∧ own b ∉ s.eat
          · rw [if_pos hm] at h3
            exact ⟨hm.1, h2, h3⟩
          · rw [if_neg hm] at h3
            exact absurd h3.symm e
        · rintro ⟨h1, h2, h3⟩
          rw [← h3] at hte
          exact ⟨Nat.lt_of_lt_of_le h1 he.2.2.2.1, h2, by rw [if_pos ⟨h1, hte⟩]; exact h3⟩
      rw [e2]
      refine hst t ht vs _ _ w w' I.eff he (fun m hm => upd_ne fun e => ?_) (fun b hb => hb.1) (fun b hb => ?_) hf
      · subst e
        rcases List.mem_cons.1 hm with h | h
        · exact ‹¬ t.i = s.i› h.symm
        · have := J.deps t ht hLt' _ h
          rw [hL] at this
          cases this
      · refine hk b hb.1 fun j hj hO => ?_
        have := hO.2.2
        rw [hb.2.2] at this
        exact hte (this ▸ hj)
  · unfold ownNext
    split
    · rename_i h
      exact set_getD.2 (.inl (J.own b h.1))
    · exact set_getD.2 (.inr rfl)
  · rcases set_getD.1 h with h | h
    · exact set_getD.2 (.inl (J.deps t ht h j hj))
    · obtain rfl := huniq t ht h
      exact set_getD.2 (.inl (hd j hj))

/-- All of T has come up. -/
def allUp (T : List Step) (L0 : Array Bool) : Array Bool := T.foldl (fun L s => L.setIfInBounds s.i true) L0
theorem allUp_getD : ∀ (T : List Step) (L0 : Array Bool) (j : Nat), (allUp T L0).getD j true = true ↔ L0.getD j true = true ∨ ∃ t ∈ T, t.i = j
  | [], L0, j => by simp [allUp]
  | s :: T, L0, j => by
    show (allUp T (L0.setIfInBounds s.i true)).getD j true = true ↔ _
    rw [allUp_getD T, set_getD]
    constructor
    · rintro ((h | rfl) | ⟨t, ht, e⟩)
      · exact .inl h
      · exact .inr ⟨s, by simp, rfl⟩
      · exact .inr ⟨t, by simp [ht], e⟩
    · rintro (h | ⟨t, ht, e⟩)
      · exact .inl (.inl h)
      · rcases List.mem_cons.1 ht with rfl | ht
        · exact .inl (.inr e.symm)
        · exact .inr ⟨t, ht, e⟩
theorem allUp_size : ∀ (T : List Step) (L0 : Array Bool), (allUp T L0).size = L0.size
  | [], _ => rfl
  | s :: T, L0 => by
    show (allUp T (L0.setIfInBounds s.i true)).size = _
    rw [allUp_size T]; simp

/-- The group's operations, in whatever order they come. -/
theorem own_all (M : Moves R) (hsel : Region.noSelect l.toArray = true) (ok : OkOwn l T L0) (hB : B ≤ w0.heap.size) (hR : ∀ w', Eff B X w0 w' → R w0 w') (hst : ∀ s ∈ T, Stays p B X w0 s) (htask : ∀ s ∈ T, Task P l p B X w0 a0 s) {fr : Nat}
    (hfin : ∀ (w : World) (vs : Nat → Value) (F : Nat → Nat → Prop), Eff B X w0 w → (∀ s ∈ T, (∀ k ∈ T, s.i ∉ k.eat) → p s.i vs (F s.i) w ∧ ∀ b, F s.i b → b < w.heap.size ∧ (B ≤ b ∨ X b)) → (∀ j k b, j ≠ k → F j b → ¬ F k b) →
      wpR P l.toArray Q R fr (allUp T L0) (putAll l vs a0 ((T.map (·.i)).filter (· < l.length))) w) :
    ∀ (n : Nat) (L : Array Bool) (vs : Nat → Value) (own : Nat → Nat) (a : Act) (w : World), (T.filter fun s => !L.getD s.i true).length = n → OwnAt l T p B X w0 a0 L0 L vs own a w → OwnMore l T L own w → wpAnyH P .any l.toArray Q (R w0) (n + fr) L a w := by
  intro n
  induction n with
  | zero =>
    intro L vs own a w hn I J
    have hup : ∀ t ∈ T, L.getD t.i true = true := fun t ht => by
      have := List.eq_nil_of_length_eq_zero hn
      rw [List.filter_eq_nil_iff] at this
      simpa using this t ht
    have hLe : L = allUp T L0 := by
      apply Array.ext
      · rw [allUp_size, I.size, ok.size]
      · intro i h1 h2
        have e1 : L.getD i true = L[i] := by simp [h1]
        have e2 : (allUp T L0).getD i true = (allUp T L0)[i] := by simp [h2]
        rw [← e1, ← e2, Bool.eq_iff_iff, allUp_getD]
        constructor
        · exact I.new i
        · rintro (h | ⟨t, ht, rfl⟩)
          · exact I.old i h
          · exact hup t ht
    have hact : a = putAll l vs a0 ((T.map (·.i)).filter (· < l.length)) := by
      rw [I.act]
      congr 1
      refine List.filter_congr fun j hj => ?_
      obtain ⟨t, ht, rfl⟩ := List.mem_map.1 hj
      rw [hup t ht, Bool.true_and]
      rcases Nat.lt_or_ge t.i l.length with h | h
      · rw [(okTopo_spec _ _ ok.topo _ hj _ (List.getElem?_eq_getElem h)).2]
        simp [h]
      · have : L0.getD t.i true = true := by rw [← ok.size] at h; simp [Nat.not_lt.2 h]
        rw [this]
        simp [Nat.not_lt.2 h]
    have hf := hfin w vs (Own B X own w) I.eff (fun s hs hne => ⟨I.facts s hs (hup s hs) fun k hk h => absurd h (hne k hk), fun b hb => ⟨hb.1, hb.2.1⟩⟩) (fun j k b hne h1 h2 => hne (h1.2.2.symm.trans h2.2.2))
    rw [Nat.zero_add, hLe, hact]
    exact wpAnyH_sub (fun w2 h2 => M.trans _ _ _ (hR _ I.eff) h2) _ _ _ _ hf
  | succ n ih =>
    intro L vs own a w hn I J
    have hex : ∃ s ∈ T, L.getD s.i true = false := by
      cases h : T.filter (fun s => !L.getD s.i true) with
      | nil => rw [h] at hn; cases hn
      | cons s r =>
        have : s ∈ T.filter (fun s => !L.getD s.i true) := by rw [h]; simp
        obtain ⟨h1, h2⟩ := List.mem_filter.1 this
        exact ⟨s, h1, by simpa using h2⟩
    rw [show n + 1 + fr = (n + fr) + 1 by omega]
    refine ⟨fun h => ?_, fun i hi => ?_⟩
    · obtain ⟨s, hs, h'⟩ := hex
      obtain ⟨i, -, hi⟩ := okTopo_ready I.size I.old ok.size _ _ ok.topo (by simp) ⟨s.i, List.mem_map.2 ⟨s, hs, rfl⟩, h'⟩
      rw [h] at hi
      cases hi
    · obtain ⟨hLi, o, ho, hall⟩ := mem_ready.1 hi
      rw [List.getElem?_toArray] at ho
      have hil : i < l.length := (List.getElem?_eq_some_iff.1 ho).1
      have hedge : ∀ j, edge l i j = true → L.getD j true = true := fun j h => by
        obtain ⟨o', ho', e, he, hb, rfl⟩ := edge_spec h
        rw [ho] at ho'
        obtain rfl := Option.some.inj ho'
        have := hall e he hb
        rcases Nat.lt_or_ge e.on L.size with h | h
        · rw [getD_of_lt h true false]; exact this
        · simp [Nat.not_lt.2 h]
      have hT : ∃ s ∈ T, s.i = i := by
        refine Classical.byContradiction fun hno => ?_
        have h0 : L0.getD i true = false := by
          cases h : L0.getD i true
          · rfl
          · have := I.old i h; rw [hLi] at this; cases this
        rcases ok.tail i hil h0 (fun t ht e => hno ⟨t, ht, e⟩) with h | ⟨j, hj, h1, h2, h3⟩
        · obtain ⟨s, hs, h'⟩ := hex
          rcases h s hs with h | h
          · rw [← I.size] at h
            simp [Nat.not_lt.2 h] at h'
          · rw [hedge _ h] at h'; cases h'
        · have h4 := hedge _ h3
          rcases I.new j h4 with h | ⟨t, ht, e⟩
          · rw [h1] at h; cases h
          · exact h2 t ht e
      obtain ⟨s, hs, rfl⟩ := hT
      have hd : ∀ j ∈ s.deps, L.getD j true = true := fun j hj => by
        rcases (ok.deps s hs j hj).2 with h | h
        · rw [← I.size] at h; simp [Nat.not_lt.2 h]
        · exact hedge _ h
      have hg := (okTopo_spec _ _ ok.topo s.i (List.mem_map.2 ⟨s, hs, rfl⟩) o ho).1
      unfold wpOp
      rw [List.getElem?_toArray, ho]
      simp only [Region.wanted, hg, if_true]
      refine .inl (does_wp ?_)
      rw [own_act ok hsel I hs ho hd]
      refine does_mono ?_ (htask s hs o ho w vs (Own B X own w) I.eff (fun j hj => ⟨?_, fun b hb => ⟨hb.1, hb.2.1⟩⟩) fun j k b hne h1 h2 => hne (h1.2.2.symm.trans h2.2.2))
      · rintro v w' ⟨he, hk, hp⟩
        obtain ⟨I', J'⟩ := own_step ok I J hB hst hs ho hLi hd he hk hp
        refine ⟨hR _ I'.eff, ih _ _ _ _ _ ?_ I' J'⟩
        have e1 : (T.filter fun t => !(L.setIfInBounds s.i true).getD t.i true) = (T.filter fun t => !L.getD t.i true).filter fun t => t.i != s.i := by
          rw [List.filter_filter]
          refine List.filter_congr fun t ht => ?_
          rw [Bool.eq_iff_iff]
          simp only [Bool.not_eq_true', Bool.and_eq_true, bne_iff_ne, ne_eq]
          constructor
          · intro h
            refine ⟨fun e => ?_, set_getD_ff h⟩
            rw [set_getD.2 (.inr e)] at h; cases h
          · rintro ⟨h1, h2⟩
            cases h : (L.setIfInBounds s.i true).getD t.i true
            · rfl
            · rcases set_getD.1 h with h | h
              · rw [h2] at h; cases h
              · exact absurd h h1
        rw [e1]
        have := nodup_drop (T.filter fun t => !L.getD t.i true) s.i ((List.Sublist.map _ List.filter_sublist).nodup ok.nodup) ⟨s, List.mem_filter.2 ⟨hs, by rw [hLi]; rfl⟩, rfl⟩
        omega
      · obtain ⟨⟨t, ht, rfl⟩, -⟩ := ok.deps s hs j hj
        refine I.facts t ht (hd _ hj) fun k hk h => ?_
        by_cases e : k.i = s.i
        · rw [e]; exact hLi
        · exact absurd hj ((ok.eat k hk _ h).2 s hs fun e' => e e'.symm)
where
  nodup_drop : ∀ (T : List Step) (i : Nat), (T.map (·.i)).Nodup → (∃ s ∈ T, s.i = i) → (T.filter fun t => t.i != i).length + 1 = T.length
    | [], _, _, ⟨_, h, _⟩ => by cases h
    | t :: T, i, hn, ⟨s, hs, e⟩ => by
      obtain ⟨h1, h2⟩ := List.nodup_cons.1 hn
      by_cases ht : t.i = i
      · rw [List.filter_cons_of_neg (by simp [ht])]
        have : T.filter (fun t => t.i != i) = T := List.filter_eq_self.2 fun u hu => by
          rw [bne_iff_ne]
          intro e'
          exact h1 (List.mem_map.2 ⟨u, hu, e'.trans ht.symm⟩)
        rw [this]; rfl
      · rw [List.filter_cons_of_pos (by simpa using ht)]
        have := nodup_drop T i h2 (by
          rcases List.mem_cons.1 hs with rfl | hs
          · exact absurd e ht
          · exact ⟨s, hs, e⟩)
        simp only [List.length_cons]
        omega
theorem wpR_own (M : Moves R) (hsel : Region.noSelect l.toArray = true) (hok : okOwn l T L0 = true) (hB : B ≤ w0.heap.size) (hR : ∀ w', Eff B X w0 w' → R w0 w') (vs0 : Nat → Value) (own0 : Nat → Nat) (hown0 : ∀ b, b < w0.heap.size → l.length ≤ own0 b)
    (h0 : ∀ s ∈ T, l.length ≤ s.i → p s.i vs0 (Own B X own0 w0 s.i) w0) (hst : ∀ s ∈ T, Stays p B X w0 s) (htask : ∀ s ∈ T, Task P l p B X w0 a0 s) {fr n : Nat} (hn : (T.filter (fun s => !L0.getD s.i true)).length + fr = n)
    (hfin : ∀ (w : World) (vs : Nat → Value) (F : Nat → Nat → Prop), Eff B X w0 w → (∀ s ∈ T, (∀ k ∈ T, s.i ∉ k.eat) → p s.i vs (F s.i) w ∧ ∀ b, F s.i b → b < w.heap.size ∧ (B ≤ b ∨ X b)) → (∀ j k b, j ≠ k → F j b → ¬ F k b) →
      wpR P l.toArray Q R fr (allUp T L0) (putAll l vs a0 ((T.map (·.i)).filter (· < l.length))) w) : wpR P l.toArray Q R n L0 a0 w0 := by
  have ok := okOwn_spec hok
  have hge : ∀ j, l.length ≤ j → L0.getD j true = true := fun j h => by rw [← ok.size] at h; simp [Nat.not_lt.2 h]
  have hlow : ∀ s ∈ T, L0.getD s.i true = true → l.length ≤ s.i := fun s hs h => by
    rcases Nat.lt_or_ge s.i l.length with h1 | h1
    · rw [(okTopo_spec _ _ ok.topo _ (List.mem_map.2 ⟨s, hs, rfl⟩) _ (List.getElem?_eq_getElem h1)).2] at h; cases h
    · exact h1
  subst hn
  refine own_all M hsel ok hB hR hst htask hfin _ L0 vs0 own0 a0 w0 rfl ⟨ok.size, fun _ h => h, fun _ h => .inl h, eff_refl _ _ _, ?_, fun s hs h _ => h0 s hs (hlow s hs h)⟩ ⟨fun b hb => hge _ (hown0 b hb), fun t ht h j hj => ?_⟩
  · have : (T.map (·.i)).filter (fun j => L0.getD j true && !L0.getD j true) = [] := List.filter_eq_nil_iff.2 fun j _ => by cases L0.getD j true <;> simp
    rw [this]
    rfl
  · rcases (ok.deps t ht j hj).2 with h' | h'
    · exact hge j h'
    · obtain ⟨o, ho, -⟩ := edge_spec h'
      have := hlow t ht h
      rw [List.getElem?_eq_none this] at ho
      cases ho
end
end Go.Proofs.Ytefnagiffllhbaa

/- OwnK -/
namespace Go.Proofs.Ytefnagiffllhbaa
open Go.RowKit

/-- Nothing below block B has changed. -/
def From (B : Nat) (w w' : World) : Prop := Below B w w'
theorem from_moves (B : Nat) : Moves (From B) := ⟨fun w => Below.refl _ w, fun _ _ _ h k => Below.trans h k⟩
theorem from_cellsD {B : Nat} {w w' : World} (h : From B w.drew w') : ∀ b o, b < B → w'.cell? ⟨b, o, none⟩ = w.cell? ⟨b, o, none⟩ := fun b o hb => Below.cell h (p := ⟨b, o, none⟩) hb
theorem from_later {B : Nat} {w w' : World} (h : Below w.heap.size w w') (hB : B ≤ w.heap.size) : From B w w' := h.mono hB
theorem from_set {B : Nat} (w : World) {g i : Nat} (v : Value) (hg : B ≤ g) : From B w (w.setCell ⟨g, i, none⟩ v) := (Below.refl B w).setCell (p := ⟨g, i, none⟩) hg v

/-- Reads in one order, ahead of all else. -/
def okL (l : List Oper) : List Nat → Array Bool → Bool
  | [], _ => true
  | i :: rest, listed => decide (i < l.length) && Region.free .any l.toArray listed i && (Region.ready .any l.toArray listed).contains i && okL l rest (listed.setIfInBounds i true)
def wpL (P : Program) (l : List Oper) (Q : Exit → Act → World → Prop) (R : World → World → Prop) (order : List Nat) (fuel : Nat) (listed : Array Bool) (a : Act) (w : World) : Prop :=
  Region.noSelect l.toArray = true → okL l order listed = true → wpR P l.toArray Q R (order.length + fuel) listed a w
section
variable {P : Program} {l : List Oper} {Q : Exit → Act → World → Prop} {R : World → World → Prop} {rest : List Nat} {fuel i : Nat} {o : Oper} {listed : Array Bool} {a : Act} {w : World}
theorem wpL_begin {id : Nat} (R : World → World → Prop) (order : List Nat) (fuel : Nat) (hm : P.follows .mixedOrders = true) (hok : (Region.noSelect l.toArray && order.length + fuel == l.length && okL l order (List.replicate l.length false).toArray) = true)
    (h : wpL P l Q R order fuel (List.replicate l.length false).toArray a w.drew) : (Code.region id l.toArray true).wp P Q a w := by
  simp only [Bool.and_eq_true, beq_iff_eq] at hok
  refine wpR_begin R hm ?_
  rw [← hok.1.2]
  have := h hok.1.1 hok.2
  rwa [hok.1.2] at this ⊢
theorem wpL_startK (M : Moves R) {order : List Nat} (h : ∀ W, Hid (W = w) → R w W → wpL P l Q R order fuel listed a W) : wpL P l Q R order fuel listed a w := h w rfl (M.refl w)
theorem wpL_start (M : Moves R) {order : List Nat} (h : ∀ W, R w W → wpL P l Q R order fuel listed a W) : wpL P l Q R order fuel listed a w := h w (M.refl w)
theorem okL_cons (h : okL l (i :: rest) listed = true) : i < l.length ∧ Region.free .any l.toArray listed i = true ∧ (Region.ready .any l.toArray listed).contains i = true ∧ okL l rest (listed.setIfInBounds i true) = true := by
  unfold okL at h
  simp only [Bool.and_eq_true, decide_eq_true_eq] at h
  obtain ⟨⟨⟨h1, h2⟩, h3⟩, h4⟩ := h
  exact ⟨h1, h2, h3, h4⟩
theorem wpL_light {v : Value} (M : Moves R) (ho : l[i]? = some o) (hw : Region.wanted o (yielded l.toArray a.tmps) = true) (hQ : ∀ c a w, Q (.panic c) (a.put o.dst v) w → Q (.panic c) a w)
    (hrun : ∀ w', R w w' → (execOp a.eval o).run P w' = .ok (.value v) w') (h : wpL P l Q R rest fuel (listed.setIfInBounds i true) (a.put o.dst v) w) : wpL P l Q R (i :: rest) fuel listed a w := by
  intro hn hok
  obtain ⟨h1, h2, h3, h5⟩ := okL_cons hok
  have e := get_of (h := h1) ho
  subst e
  have := wpR_take (fuel := rest.length + fuel) i M h1 hn h2 h3 hQ (.inl ⟨hw, hrun⟩) (h hn h5)
  rw [List.length_cons, show rest.length + 1 + fuel = rest.length + fuel + 1 by omega]
  exact this
theorem wpL_skip (M : Moves R) (ho : l[i]? = some o) (hw : Region.wanted o (yielded l.toArray a.tmps) = false) (hQ : ∀ c a w, Q (.panic c) (a.put o.dst undef) w → Q (.panic c) a w)
    (h : wpL P l Q R rest fuel (listed.setIfInBounds i true) (a.put o.dst undef) w) : wpL P l Q R (i :: rest) fuel listed a w := by
  intro hn hok
  obtain ⟨h1, h2, h3, h5⟩ := okL_cons hok
  have e := get_of (h := h1) ho
  subst e
  have := wpR_take (fuel := rest.length + fuel) i M h1 hn h2 h3 hQ (.inr ⟨hw, rfl⟩) (h hn h5)
  rw [List.length_cons, show rest.length + 1 + fuel = rest.length + fuel + 1 by omega]
  exact this
theorem wpR_tail (hs order : List Nat) (hok : (Region.noSelect l.toArray && okOrd l hs order listed) = true) (h : wpO P l hs Q R order listed a w) : wpR P l.toArray Q R order.length listed a w := by
  rw [Bool.and_eq_true] at hok
  exact h hok.1 hok.2
end

/-- The act behind some operations: their slots and numbers. -/
def puts (a : Act) (vs : Nat → Value) (js : List (Option Tmp × Nat)) : Act := js.foldl (fun a j => a.put j.1 (vs j.2)) a
theorem puts_putAll (l : List Oper) (vs : Nat → Value) : ∀ (js : List Nat) (a : Act), putAll l vs a js = puts a vs (js.map fun j => (dstOf l j, j))
  | [], _ => rfl
  | _ :: js, _ => puts_putAll l vs js _

section
variable {P : Program} {l : List Oper} {Q : Exit → Act → World → Prop} {R : World → World → Prop} {T : List Step} {ps : List (Nat × Fact)} {B : Nat} {w0 : World} {a0 : Act} {L0 : Array Bool}
abbrev NoX : Nat → Prop := fun _ => False
theorem eff_below {B : Nat} {w w' : World} : Eff B NoX w w' ↔ Below B w w' := ⟨fun h => ⟨h.1, h.2.1, h.2.2.1, h.2.2.2.1, fun b hb => h.2.2.2.2 b hb id⟩, fun h => ⟨h.os, h.tape, h.output, h.size, fun b hb _ => h.block b hb⟩⟩
/-- What belongs to the operation behind a run. -/
def Grown (w w' : World) (F : Nat → Nat → Prop) (eat : List Nat) : Nat → Prop := fun b => (w.heap.size ≤ b ∧ b < w'.heap.size) ∨ ∃ j ∈ eat, F j b
/-- Nothing has changed but what is new and what is taken over. -/
def Near (B : Nat) (w w' : World) (F : Nat → Nat → Prop) (eat : List Nat) : Prop := Below B w w' ∧ ∀ b, b < w.heap.size → (∀ j ∈ eat, ¬ F j b) → w'.heap[b]? = w.heap[b]?
theorem near_same (B : Nat) (w : World) (F : Nat → Nat → Prop) (eat : List Nat) : Near B w w F eat := ⟨Below.refl _ _, fun _ _ _ => rfl⟩
theorem near_below {B : Nat} {w w' : World} (h : Below w.heap.size w w') (hB : B ≤ w.heap.size) (F : Nat → Nat → Prop) (eat : List Nat) : Near B w w' F eat := ⟨h.mono hB, fun b hb _ => h.block b hb⟩
theorem near_grown {B g : Nat} {w w' : World} {F : Nat → Nat → Prop} {eat : List Nat} (h : w.grownBy w' (some g)) (hg : B ≤ g) (hB : B ≤ w.heap.size) {j : Nat} (hj : j ∈ eat) (hF : F j g) : Near B w w' F eat :=
  ⟨below_of_only h hB hg, fun b hb hn => h.block b hb fun e => hn j hj (by rw [Option.some.inj e]; exact hF)⟩
/-- The group's rule where nothing old is written. -/
theorem wpL_own (M : Moves R) (T : List Step) (ps : List (Nat × Fact)) (js : List (Option Tmp × Nat)) (hs tail : List Nat) {fuel : Nat} (hn : Region.noSelect l.toArray = true)
    (hok : (okOwn l T L0 && (T.all fun s => decide (s.i < l.length)) && decide (T.length + tail.length = fuel) && okOrd l hs tail (allUp T L0) && (((T.map (·.i)).map fun j => (dstOf l j, j)) == js)) = true)
    (hB : B ≤ w0.heap.size) (hR : ∀ w', Below B w0 w' → R w0 w') (hst : ∀ s ∈ T, Stays (pick ps) B NoX w0 s) (htask : ∀ s ∈ T, Task P l (pick ps) B NoX w0 a0 s)
    (hfin : ∀ (w : World) (vs : Nat → Value) (F : Nat → Nat → Prop), Below B w0 w → (∀ s ∈ T, (∀ k ∈ T, s.i ∉ k.eat) → pick ps s.i vs (F s.i) w ∧ ∀ b, F s.i b → b < w.heap.size ∧ B ≤ b) → (∀ j k b, j ≠ k → F j b → ¬ F k b) →
      wpO P l hs Q R tail (allUp T L0) (puts a0 vs js) w) : wpL P l Q R [] fuel L0 a0 w0 := by
  intro _ _
  simp only [Bool.and_eq_true, beq_iff_eq, decide_eq_true_eq] at hok
  obtain ⟨⟨⟨⟨h1, h2⟩, h3⟩, h4⟩, h5⟩ := hok
  rw [List.all_eq_true] at h2
  have ok := okOwn_spec h1
  have hlt : ∀ s ∈ T, s.i < l.length := fun s hs => by simpa using h2 s hs
  have hall : ∀ s ∈ T, L0.getD s.i true = false := fun s hs => (okTopo_spec _ _ ok.topo _ (List.mem_map.2 ⟨s, hs, rfl⟩) _ (List.getElem?_eq_getElem (hlt s hs))).2
  rw [List.length_nil, Nat.zero_add]
  refine wpR_own (X := NoX) (fr := tail.length) M hn h1 hB (fun w' h => hR w' (eff_below.1 h)) (fun _ => undef) (fun _ => l.length) (fun _ _ => Nat.le_refl _) (fun s hs h => absurd (hlt s hs) (Nat.not_lt.2 h)) hst htask ?_ fun w vs F he hf hd => ?_
  · rw [List.filter_eq_self.2 fun s hs => by rw [hall s hs]; rfl]
    exact h3
  · have e : (T.map (·.i)).filter (· < l.length) = T.map (·.i) := List.filter_eq_self.2 fun j hj => by
      obtain ⟨s, hs, rfl⟩ := List.mem_map.1 hj
      simpa using hlt s hs
    rw [e, puts_putAll, h5]
    exact hfin w vs F (eff_below.1 he) (fun s hs hne => ⟨(hf s hs hne).1, fun b hb => ⟨((hf s hs hne).2 b hb).1, ((hf s hs hne).2 b hb).2.resolve_right id⟩⟩) hd hn h4
/-- One operation's task, with its act written out. -/
theorem task_mk {s : Step} {o : Oper} (js : List (Option Tmp × Nat)) (ho : l[s.i]? = some o) (hjs : ((s.deps.filter (· < l.length)).map fun j => (dstOf l j, j)) = js)
    (h : ∀ (w : World) (vs : Nat → Value) (F : Nat → Nat → Prop), Below B w0 w → (∀ j ∈ s.deps, pick ps j vs (F j) w ∧ ∀ b, F j b → b < w.heap.size ∧ B ≤ b) → (∀ j k b, j ≠ k → F j b → ¬ F k b) →
      Does P (execOp (puts a0 vs js).eval o) w fun v w' => Near B w w' F s.eat ∧ pick ps s.i (upd vs s.i v) (Grown w w' F s.eat) w') : Task P l (pick ps) B NoX w0 a0 s := by
  intro o' ho' w vs F he hd hdis
  rw [ho] at ho'
  obtain rfl := Option.some.inj ho'
  rw [puts_putAll, hjs]
  refine does_mono ?_ (h w vs F (eff_below.1 he) (fun j hj => ⟨(hd j hj).1, fun b hb => ⟨((hd j hj).2 b hb).1, ((hd j hj).2 b hb).2.resolve_right id⟩⟩) hdis)
  rintro v w' ⟨h1, h2⟩
  exact ⟨eff_below.2 h1.1, h1.2, h2⟩
end

/-- The value is known, given those of other operations. -/
def ValAt (f : (Nat → Value) → Value) (i : Nat) : Fact := fun vs _ _ => vs i = f vs
/-- A block of its own, with these cells. -/
def BlkAt (t : TypeId) (cs : (Nat → Value) → Array Value) (mk : Nat → Value) (i : Nat) : Fact := fun vs F w => ∃ g, vs i = mk g ∧ F g ∧ Blk w g t (cs vs)
/-- A row of its own. -/
def RowAt (t : TypeId) (n : Nat) (xs : List Value) (i : Nat) : Fact := fun vs F w => ∃ A c, vs i = .slice A n c ∧ w.ownsRow 0 t 1 (.slice A n c) n xs ∧ ∀ g, (Value.slice A n c).ownBlock = some g → F g
abbrev mkS (n : Nat) : Nat → Value := fun g => .slice (some ⟨g, 0, none⟩) n n
abbrev mkP : Nat → Value := fun g => .pointer (some ⟨g, 0, none⟩)
section
variable {p : Nat → Fact} {B : Nat} {X : Nat → Prop} {w0 : World} {s : Step}
theorem stays_val {f : (Nat → Value) → Value} (hp : p s.i = ValAt f s.i) (hf : ∀ vs us : Nat → Value, (∀ m ∈ s.deps, us m = vs m) → f us = f vs) : Stays p B X w0 s := by
  intro vs us F w w' _ _ h _ _ hv
  rw [hp] at hv ⊢
  unfold ValAt at *
  rw [h _ (by simp), hv, hf vs us fun m hm => h m (by simp [hm])]
theorem stays_const {v : Value} (hp : p s.i = ValAt (fun _ => v) s.i) : Stays p B X w0 s := stays_val hp fun _ _ _ => rfl
theorem stays_blk {t : TypeId} {cs : (Nat → Value) → Array Value} {mk : Nat → Value} (hp : p s.i = BlkAt t cs mk s.i) (hf : ∀ vs us : Nat → Value, (∀ m ∈ s.deps, us m = vs m) → cs us = cs vs) : Stays p B X w0 s := by
  intro vs us F w w' _ _ h _ hk hv
  rw [hp] at hv ⊢
  obtain ⟨g, h1, h2, h3⟩ := hv
  exact ⟨g, by rw [h _ (by simp), h1], h2, by rw [hf vs us fun m hm => h m (by simp [hm])]; exact (hk g h2).trans h3⟩
theorem stays_blkc {t : TypeId} {cs : Array Value} {mk : Nat → Value} (hp : p s.i = BlkAt t (fun _ => cs) mk s.i) : Stays p B X w0 s := stays_blk hp fun _ _ _ => rfl
theorem stays_row {t : TypeId} {n : Nat} {xs : List Value} (hp : p s.i = RowAt t n xs s.i) : Stays p B X w0 s := by
  intro vs us F w w' _ _ h _ hk hv
  rw [hp] at hv ⊢
  obtain ⟨A, c, h1, ⟨h2, h3⟩, h4⟩ := hv
  refine ⟨A, c, by rw [h _ (by simp), h1], ⟨h2, ?_⟩, h4⟩
  rcases h3 with h3 | ⟨g, cap, cur, hv, hg, hh, r⟩
  · exact .inl h3
  · exact .inr ⟨g, cap, cur, hv, hg, by rw [hk g (h4 g (by rw [hv]; rfl))]; exact hh, r⟩
theorem row_of {w w' : World} {t : TypeId} {n : Nat} {xs : List Value} {v : Value} {F : Nat → Nat → Prop} {eat : List Nat} {vs : Nat → Value} {i : Nat} (h : w'.ownsRow w.heap.size t 1 v n xs) : RowAt t n xs i (upd vs i v) (Grown w w' F eat) w' := by
  obtain ⟨A, c, rfl, -⟩ := own_form h
  exact ⟨A, c, upd_self _ _ _, own_base h (Nat.zero_le _), fun g e => .inl (h.lt g e)⟩
theorem blk_of {w w' : World} {t : TypeId} {cs : (Nat → Value) → Array Value} {mk : Nat → Value} {F : Nat → Nat → Prop} {eat : List Nat} {vs : Nat → Value} {i g : Nat} (h : Blk w' g t (cs (upd vs i (mk g)))) (hg : w.heap.size ≤ g) : BlkAt t cs mk i (upd vs i (mk g)) (Grown w w' F eat) w' :=
  ⟨g, upd_self _ _ _, .inl ⟨hg, h.lt⟩, h⟩
end
end Go.Proofs.Ytefnagiffllhbaa

/- RefG -/
namespace Go.Proofs.Ytefnagiffllhbaa
open Go.RowKit

theorem RLin.open_ {w : World} {v : Value} {l : List (Int × Nat)} (h : RLin w [v] l) : ∃ A n c, v = .slice A n c ∧ n ≤ maxLen := by
  obtain ⟨A, n, c, e, -, h1, h2, -⟩ := h
  simp at e
  exact ⟨A, n, c, e, by omega⟩

set_option maxRecDepth 100000 in
set_option maxHeartbeats 4000000 in
theorem rSmall_any (p : Nat) (pub vars : Int) (A : Option Addr) (n c : Nat) (rows : List RowR) (w : World) (hr : RSl 3 RRow w [.slice A n c] rows) :
    Calls Try.prog 48 #[tabV p pub vars (.slice A n c)] w fun e w' => SomeBool e ∧ Below w.heap.size w w' := by
  obtain ⟨A', n', c', he, hlen, hnc, hmx, hrd⟩ := hr
  simp at he
  obtain ⟨rfl, rfl, rfl⟩ := he
  subst hlen
  unfold tabV
  have gm : (rows.length : Int) ≤ 9223372036854775807 := by
    have h3 := hnc
    have h4 := hmx
    simp [maxLen] at h4
    omega
  obtain ⟨w0, hw0⟩ : ∃ w0, w0 = w.alloc (.cells #[.int .u64 (p : Int), .int .i64 pub, .int .i64 vars, .slice A rows.length c] 25) := ⟨_, rfl⟩
  have hb0 : Below w.heap.size w w0 := by rw [hw0]; exact (Below.refl _ w).alloc (Nat.le_refl _) _
  have hB : Blk w0 w.heap.size 25 #[.int .u64 (p : Int), .int .i64 pub, .int .i64 vars, .slice A rows.length c] := by rw [hw0]; exact Blk.new w _ _
  go_enter Try.func48, Try.ntmps48
  go_wp2_with fail
  rw [← hw0]
  have HW := Lib.hid hw0
  clear hw0
  go_loopw [3, 4] (fun s i wr => ∃ (j kk : Nat) (t : Int), j ≤ rows.length ∧ i = .int .i64 (j : Int) ∧ s = .int .i64 t ∧ wr = w0.drewN kk)
    (fun _ i _ => rows.length - (intOf i).toNat)
  case atStart => exact ⟨0, 0, rows.length, Nat.zero_le _, rfl, rfl, rfl⟩
  case round =>
    obtain ⟨j, kk, t, hj, rfl, rfl, rfl⟩ := hrel
    have s3 : (w0.drewN kk).cell? ⟨w.heap.size, 3, none⟩ = some (.slice A rows.length c) := (hB.drewN kk).cell 3
    by_cases hlt : j < rows.length
    · by_cases z1 : t ≤ 400
      · have d1 := decide_eq_true z1
        obtain ⟨b, q, rfl⟩ := hrd.base (by omega) (by omega)
        obtain ⟨cs, -, hc, x, y, z, rfl, hx1, hy1, hz1⟩ := (hrd.below kept_RRow (below_drewN hb0 kk)).get hlt
        obtain ⟨A1, n1, c1, rfl, m1⟩ := RLin.open_ hx1
        obtain ⟨A2, n2, c2, rfl, m2⟩ := RLin.open_ hy1
        obtain ⟨A3, n3, c3, rfl, m3⟩ := RLin.open_ hz1
        have h0 : (w0.drewN kk).cell? ⟨b, q + j * 3, none⟩ = some _ := hc 0 (by omega)
        have h1 : (w0.drewN kk).cell? ⟨b, q + j * 3 + 1, none⟩ = some _ := hc 1 (by omega)
        have h2 : (w0.drewN kk).cell? ⟨b, q + j * 3 + 2, none⟩ = some _ := hc 2 (by omega)
        have i1 : (0 : Int) ≤ (j : Int) := by omega
        have i2 : (j : Int) < (rows.length : Int) := by omega
        simp [maxLen] at m1 m2 m3 h0 h1 h2
        clear hc hx1 hy1 hz1
        simp at s3
        go_wp2_with fail
        go_quiet (fail)
        go_wp2
        go_roundw
        case rel => exact ⟨j + 1, _, _, by omega, by go_num, rfl, rfl⟩
        case measure => simp [intOf]; omega
      · have d1 := decide_eq_false z1
        go_wp2
        go_ret
        exact ⟨⟨_, rfl⟩, below_drewN hb0 _⟩
    · go_wp2
      go_ret
      exact ⟨⟨_, rfl⟩, below_drewN hb0 _⟩

set_option maxHeartbeats 400000 in
theorem fits_any (n : Nat) (w : World) (hn : n ≤ 4096) :
    Calls Try.prog 91 #[.int .i64 (n : Int)] w fun e w' => ∃ k, e = .returned (.int .i64 ((2 ^ k : Nat) : Int)) ∧ n ≤ 2 ^ k ∧ 2 ^ k ≤ 2 * n + 1 ∧ (1 ≤ n → 2 ^ k < 2 * n) ∧ w' = w := by
  go_enter Try.func91, Try.ntmps91
  go_wp2_with fail
  go_loopw [3] (fun i wr => ∃ (k m : Nat), i = .int .i64 (m : Int) ∧ Hid (m = 2 ^ k) ∧ 0 < m ∧ m ≤ 2 * n + 1 ∧ Hid (1 ≤ n → m < 2 * n) ∧ wr = w)
    (fun i _ => 2 * n + 1 - (intOf i).toNat)
  case atStart => exact ⟨0, 1, rfl, rfl, by omega, by omega, (fun _ => by omega), by simp⟩
  case round =>
    obtain ⟨k, m, rfl, HM, hm0, hm1, HL, rfl⟩ := hrel
    by_cases hlt : m < n
    · go_wp2
      go_roundw
      case rel =>
        refine ⟨k + 1, 2 * m, by go_num, ?_, by omega, by omega, (fun _ => by omega), by simp⟩
        show 2 * m = 2 ^ (k + 1)
        rw [HM.out, Nat.pow_succ, Nat.mul_comm]
      case measure => simp [intOf]; omega
    · go_wp2
      go_ret
      refine ⟨k, ?_, ?_, ?_, ?_, rfl⟩
      · rw [← HM.out]; rfl
      · rw [← HM.out]; omega
      · rw [← HM.out]; omega
      · rw [← HM.out]; exact HL.out
end Go.Proofs.Ytefnagiffllhbaa
