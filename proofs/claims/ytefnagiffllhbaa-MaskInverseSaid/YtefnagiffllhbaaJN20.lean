/-
  mask's vanishing product: (X^b - 1) times a polynomial.
-/
import Derived.Test.YtefnagiffllhbaaJN19
import Derived.Test.YtefnagiffllhbaaJN5
import Derived.Test.YtefnagiffllhbaaJN3
import Derived.Test.YtefnagiffllhbaaJN9
import Derived.Test.YtefnagiffllhbaaJN10

/- PoJ -/
namespace Go.Proofs.Ytefnagiffllhbaa
open Go.RowKit

set_option maxRecDepth 100000 in
set_option maxHeartbeats 400000 in
theorem rSides_any (x y z : Value) (w : World) (hx : slc x) (hy : slc y) (hz : slc z) :
    Calls Try.prog 67 #[.agg #[x, y, z]] w fun e w' => e = .returned (.agg #[x, y, z]) ∧ Below w.heap.size w w' := by
  obtain ⟨A0, n0, c0, rfl⟩ := hx
  obtain ⟨A1, n1, c1, rfl⟩ := hy
  obtain ⟨A2, n2, c2, rfl⟩ := hz
  obtain ⟨kr, ka, hb0, -⟩ := boxes2 w 71 111 #[.slice A0 n0 c0, .slice A1 n1 c1, .slice A2 n2 c2] #[.slice none 0 0, .slice none 0 0, .slice none 0 0]
  go_enter Try.func67, Try.ntmps67
  go_upto_region 1 with fail
  generalize (w.alloc _).alloc _ = w1 at kr ka hb0 ⊢
  have cc1 := kr.cell
  obtain ⟨cc2, f2⟩ := ka.cells'
  have l1 := kr.lt
  have l2 := ka.lt
  go_wp2_with fail
  have k3 := set3_blk ka (.slice A0 n0 c0) (.slice A1 n1 c1) (.slice A2 n2 c2)
  have hg := set3_grown (w := w1) (g := w.heap.size + 1) (.slice A0 n0 c0) (.slice A1 n1 c1) (.slice A2 n2 c2)
  replace hb0 := hb0.trans (below_of_only hg hb0.size (by omega))
  revert k3 hb0
  generalize ((World.setCell _ _ _).setCell _ _).setCell _ _ = wf
  intro k3 hb0
  have c4 := k3.cell
  exact bodyPost_ret (v := .agg #[.slice A0 n0 c0, .slice A1 n1 c1, .slice A2 n2 c2]) (by simp [results, Try.results67, go_sem, c4]) rfl ⟨rfl, hb0⟩

theorem info_lin : (Try.prog.info? 69).map (fun i => (i.zero, i.size, i.bytes)) = some (some (.slice none 0 0), 1, 24) := by kernel_rfl
theorem agg_lin {w : World} : ((isAgg 69).run Try.prog w) = .ok false w := by simp [isAgg, run_underlying Try.underlying69]
theorem size_lin {w : World} : ((sizeOf 69).run Try.prog w) = .ok 1 w := by
  obtain ⟨i0, hi, hz0, hz1, hz2⟩ := info_parts info_lin
  simp [sizeOf, typeInfo, hi, hz1]
theorem idx_lin {w : World} {x y z : Value} {k : Nat} (h : k < 3) : (Instr.index 111 (.agg #[x, y, z]) (.int .i64 (k : Int))).run Try.prog w = .ok (if k = 0 then x else if k = 1 then y else z) w :=
  run_index_arr (i := k) Try.underlying111 agg_lin size_lin h (by
    rcases (show k = 0 ∨ k = 1 ∨ k = 2 by omega) with rfl | rfl | rfl <;> rfl)
theorem arr_get {V0 : Value} {xs : Nat → Value} {k : Nat} (h : k < 3) : (#[V0, xs 0, xs 1, xs 2] : Array Value)[k + 1]? = some (xs k) := by
  rcases (show k = 0 ∨ k = 1 ∨ k = 2 by omega) with rfl | rfl | rfl <;> rfl
theorem rwx_here {N : Nat} {gb : Option Nat} {w : World} {v : Value} {l : List Nat} (h : RWx N gb w v l) : RWd w [v] l := h w fun _ _ _ _ => rfl
def updV (xs : Nat → Value) (k : Nat) (v : Value) (j : Nat) : Value := if j = k then v else xs j
theorem arr_set {V0 v : Value} {xs : Nat → Value} {k : Nat} (h : k < 3) : (#[V0, xs 0, xs 1, xs 2] : Array Value).setIfInBounds (k + 1) v = #[V0, updV xs k v 0, updV xs k v 1, updV xs k v 2] := by
  rcases (show k = 0 ∨ k = 1 ∨ k = 2 by omega) with rfl | rfl | rfl <;> rfl
theorem updV_twice (xs : Nat → Value) (k : Nat) (u v : Value) : updV (updV xs k u) k v = updV xs k v := by
  funext j
  unfold updV
  split <;> rfl
theorem updV_self (xs : Nat → Value) (k : Nat) : updV xs k (xs k) = xs := by
  funext j
  unfold updV
  split
  · rename_i h; rw [h]
  · rfl
theorem blk_fromX {g N b : Nat} {w w' : World} {t : TypeId} {cs : Array Value} (k : Blk w b t cs) (h : FromX g N w w') (hb : b < N) (hne : b ≠ g) : Blk w' b t cs := by
  unfold Blk at *
  rw [h.2.2.2.2 b hb hne]
  exact k

/-- One side of a row. -/
def sideR (r : RowR) (k : Nat) : List (Int × Nat) := if k = 0 then r.a else if k = 1 then r.b else r.c
def valsR (p : Nat) (rows : List RowR) (ws : List Nat) (k : Nat) : List Nat := rows.map fun r => linVal p (sideR r k) ws
/-- ref24.Messages. -/
def msgsR (L : LayR) (rows : List RowR) (ws : List Nat) (pu : Nat) : List (List Nat) := cutL L.block (sel4 (ws.drop (1 + pu)) (valsR L.p rows ws 0) (valsR L.p rows ws 1) (valsR L.p rows ws 2)) (sel4 L.a L.b L.b L.b)

theorem linStep_lt {p : Nat} (hp : 0 < p) (ws : List Nat) {s : Nat} (hs : s < p) (t : Int × Nat) : linStep p ws s t < p := by
  unfold linStep
  split
  · exact Nat.mod_lt _ hp
  · exact hs
theorem linVal_lt {p : Nat} (hp : 0 < p) (l : List (Int × Nat)) (ws : List Nat) : linVal p l ws < p := by
  have key : ∀ (l : List (Int × Nat)) (s : Nat), s < p → l.foldl (linStep p ws) s < p := fun l => by
    induction l with
    | nil => exact fun s hs => hs
    | cons t l ih => exact fun s hs => ih _ (linStep_lt hp ws hs t)
  exact key l 0 hp

set_option maxRecDepth 100000 in
set_option maxHeartbeats 2000000 in
theorem rMessages_any (L : LayR) (pu : Nat) (vars : Int) (A B : Option Addr) (n c m d : Nat) (rows : List RowR) (ws : List Nat) (w : World) (hL : LayOk L) (hr : RSl 3 RRow w [.slice A n c] rows) (hw : RWd w [.slice B m d] ws) (hlen : 1 + pu ≤ ws.length) (hn : rows.length ≤ 16384) :
    Calls Try.prog 34 #[.agg (layCs L), tabV L.p (pu : Int) vars (.slice A n c), .slice B m d] w fun e w' => ∃ v, e = .returned v ∧ RRows w' [v] (msgsR L rows ws pu) ∧ Below w.heap.size w w' := by
  obtain ⟨hml, hmd, hdx, hlt, hrw⟩ := lw_at hw
  subst hml
  have gm := lw_max hmd hdx
  obtain ⟨s, hs⟩ : ∃ s, s = 1 + pu := ⟨_, rfl⟩
  have e1 : (1 : Int) + (pu : Int) = (s : Int) := by omega
  have e2 : IntKind.i64.wrap (s : Int) = (s : Int) := wr_i64 _ (by omega) (by omega)
  have e3 : (s : Int) ≤ (ws.length : Int) := by omega
  have e4 : s ≤ ws.length := by omega
  have e5 : (0 : Int) ≤ (s : Int) := by omega
  rw [show msgsR L rows ws pu = cutL L.block (sel4 (ws.drop s) (valsR L.p rows ws 0) (valsR L.p rows ws 1) (valsR L.p rows ws 2)) (sel4 L.a L.b L.b L.b) by rw [hs]; rfl]
  unfold layCs tabV at *
  obtain ⟨kl, kt, kv, hb0, hsz⟩ := boxes3 w 33 25 109 #[.int .u64 (L.p : Int), .int .i64 (L.block : Int), .int .i64 (L.queries : Int), .int .i64 (L.k : Int), .int .i64 (L.n : Int), .int .i64 (L.secret : Int), .int .i64 (L.rows : Int), .int .i64 (L.a : Int), .int .i64 (L.b : Int), .int .i64 (L.b : Int), .int .i64 (L.b : Int)] #[.int .u64 (L.p : Int), .int .i64 (pu : Int), .int .i64 vars, .slice A n c] #[.slice none 0 0, .slice none 0 0, .slice none 0 0, .slice none 0 0]
  clear hs
  have hv0 : RWd w [.slice (if d = s then B else Option.map (fun x => x.add s) B) (ws.length - s) (d - s)] (ws.drop s) := by
    have hc := hrw.cut (k := s) e4 hmd
    rw [Nat.mul_one] at hc
    refine ⟨_, _, _, rfl, by omega, by omega, ?_, fun x hx => hlt x (List.mem_of_mem_drop hx)⟩
    have e : U64 (ws.drop s) = (U64 ws).drop s := by simp [U64]
    rw [e]
    exact hc
  have HSd := Lib.hid (fun x y z w hx hy hz => rSides_any x y z w hx hy hz)
  have HVl := Lib.hid (fun A len c l w' (hb : Below w.heap.size w w') hl => rValue_any L.p A B len c ws.length d l ws w' hl (kept_RWd _ _ _ _ hb hw) hL.p)
  have HCut := Lib.hid (fun v0 v1 v2 v3 l0 l1 l2 l3 w h => rCut_any L v0 v1 v2 v3 l0 l1 l2 l3 w hL h)
  obtain ⟨A', n', c', he, hnl, hnc, hcx, hrd⟩ := hr
  simp at he
  obtain ⟨rfl, rfl, rfl⟩ := he
  subst hnl
  have gr : (rows.length : Int) ≤ 16384 := by omega
  have HVN := Lib.hid (show ∀ k i (h : i < rows.length), (valsR L.p rows ws k).take i ++ [linVal L.p (sideR rows[i] k) ws] = (valsR L.p rows ws k).take (i + 1) from fun k i h => by
    rw [List.take_succ_eq_append_getElem (by simpa [valsR] using h)]
    simp [valsR])
  have HVA := Lib.hid (show ∀ k, (valsR L.p rows ws k).take rows.length = valsR L.p rows ws k from fun k => List.take_of_length_le (by simp [valsR]))
  have HVT := Lib.hid (show ∀ k, ∀ x ∈ valsR L.p rows ws k, x < 18446744073709551616 from fun k x hx => by
    obtain ⟨r, -, rfl⟩ := List.mem_map.1 hx
    exact Nat.lt_trans (linVal_lt (by have := okP_lt hL.p; omega) _ _) (okP_lt hL.p).2)
  obtain ⟨vals, hvals⟩ : ∃ vals, vals = valsR L.p rows ws := ⟨_, rfl⟩
  rw [← hvals] at HVN HVA HVT ⊢
  obtain ⟨B0, hB0⟩ : ∃ B0, B0 = (if d = s then B else Option.map (fun x => x.add s) B) := ⟨_, rfl⟩
  have HB0 := Lib.hid hB0
  rw [← hB0] at hv0
  clear hvals hL hlen hrw hlt hw hB0
  go_enter Try.func34, Try.ntmps34
  go_upto_region 2 with fail
  generalize ((w.alloc _).alloc _).alloc _ = w1 at kl kt kv hb0 hsz ⊢
  have c1 := kt.cell 1
  have c2 := kv.cell 0
  have f2 := kv.frozen
  have l1 := kt.lt
  have l2 := kv.lt
  go_upto_region 3 with fail
  rw [← HB0.out]
  clear c1 c2 f2 l1 l2 e1 e2 e3 e4 e5 HB0
  have hg := set_only (w := w1) (w.heap.size + 1 + 1) 0 (.slice B0 (ws.length - s) (d - s))
  replace kv := kv.set_ 0 (.slice B0 (ws.length - s) (d - s))
  replace kv : Blk (w1.setCell ⟨w.heap.size + 1 + 1, 0, none⟩ (.slice B0 (ws.length - s) (d - s))) (w.heap.size + 1 + 1) 109 #[.slice B0 (ws.length - s) (d - s), .slice none 0 0, .slice none 0 0, .slice none 0 0] := by simpa using kv
  replace kl := kl.grown hg (fun e => by have := Option.some.inj e; omega)
  replace kt := kt.grown hg (fun e => by have := Option.some.inj e; omega)
  have hN0 : w.heap.size + 3 ≤ (w1.setCell ⟨w.heap.size + 1 + 1, 0, none⟩ (.slice B0 (ws.length - s) (d - s))).heap.size := by have := hg.size; omega
  replace hb0 := hb0.trans (below_of_only hg hb0.size (by omega))
  clear hg hsz
  generalize ws.length - s = n0 at *
  generalize d - s = d0 at *
  generalize w1.setCell _ _ = w2 at kl kt kv hb0 hN0 ⊢
  obtain ⟨V0, hV0⟩ : ∃ V0 : Value, V0 = .slice B0 n0 d0 := ⟨_, rfl⟩
  have HV0 := Lib.hid hV0
  rw [← hV0] at kv hv0
  clear hV0
  obtain ⟨TC, hTC⟩ : ∃ TC : Array Value, TC = #[.int .u64 (L.p : Int), .int .i64 (pu : Int), .int .i64 vars, .slice A rows.length c] := ⟨_, rfl⟩
  have HT0 := Lib.hid (show TC[0]? = some (.int .u64 (L.p : Int)) by rw [hTC]; rfl)
  have HT3 := Lib.hid (show TC[3]? = some (.slice A rows.length c) by rw [hTC]; rfl)
  rw [← hTC] at kt
  clear hTC
  obtain ⟨gv, hgv⟩ : ∃ gv, gv = w.heap.size + 1 + 1 := ⟨_, rfl⟩
  have n1 : w.heap.size < gv := by omega
  have n2 : w.heap.size + 1 < gv := by omega
  have n3 : w.heap.size ≠ gv := by omega
  have n4 : w.heap.size + 1 ≠ gv := by omega
  have n5 : gv + 1 = w.heap.size + 3 := by omega
  rw [← hgv] at kv ⊢
  clear hgv
  go_wp2_with fail
  go_loopw [8] (fun y wr => ∃ (k : Nat) (xs : Nat → Value), k ≤ 3 ∧ y = .int .i64 (k : Int) ∧ Blk wr w.heap.size 33 #[.int .u64 (L.p : Int), .int .i64 (L.block : Int), .int .i64 (L.queries : Int), .int .i64 (L.k : Int), .int .i64 (L.n : Int), .int .i64 (L.secret : Int), .int .i64 (L.rows : Int), .int .i64 (L.a : Int), .int .i64 (L.b : Int), .int .i64 (L.b : Int), .int .i64 (L.b : Int)] ∧ Blk wr (w.heap.size + 1) 25 TC ∧ Blk wr gv 109 #[V0, xs 0, xs 1, xs 2] ∧ (∀ j, j < k → RWx (gv + 1) none wr (xs j) (vals j)) ∧ (∀ j, k ≤ j → xs j = .slice none 0 0) ∧ Below w.heap.size w wr ∧ gv + 1 ≤ wr.heap.size) (fun y _ => 3 - (intOf y).toNat)
  case atStart => exact ⟨0, fun _ => .slice none 0 0, by omega, rfl, kl, kt, kv, fun j h => by omega, fun j _ => rfl, hb0, by omega⟩
  case round =>
    clear kl kt kv hb0 hN0
    obtain ⟨k, xs, hk, rfl, kl, kt, kv, hdone, htodo, hb0, hN0⟩ := hrel
    by_cases hlt : k < 3
    · have q1 : (k : Int) < 3 := by omega
      obtain ⟨wo, hwo⟩ : ∃ wo, wo = wr := ⟨_, rfl⟩
      subst hwo
      have hxk := htodo k (Nat.le_refl _)
      have HDN := Lib.hid hdone
      have HTD := Lib.hid htodo
      have HVNk := Lib.hid (HVN.out k)
      have HVAk := Lib.hid (HVA.out k)
      have HVTk := Lib.hid (HVT.out k)
      obtain ⟨vk, hvk⟩ : ∃ vk, vk = vals k := ⟨_, rfl⟩
      have HVK := Lib.hid hvk
      rw [← hvk] at HVNk HVAk HVTk
      have hself : updV xs k (.slice none 0 0) = xs := by rw [← hxk, updV_self]
      have kv1 : Blk wo gv 109 #[V0, updV xs k (.slice none 0 0) 0, updV xs k (.slice none 0 0) 1, updV xs k (.slice none 0 0) 2] := by rw [hself]; exact kv
      have ix := fun (w : World) (x y z : Value) => idx_lin (w := w) (x := x) (y := y) (z := z) hlt
      obtain ⟨k1, hk1⟩ : ∃ k1, k1 = k + 1 := ⟨_, rfl⟩
      have ek : (k : Int) + 1 = (k1 : Int) := by omega
      have ek2 : IntKind.i64.wrap (k1 : Int) = (k1 : Int) := wr_i64 _ (by omega) (by omega)
      have HK1 := Lib.hid hk1
      have qk : k1 < 4 := by omega
      have qk2 : (k1 : Int) < 4 := by omega
      clear hxk hself hdone htodo hvk kv hk1
      go_wp2_with fail
      go_loopw [9] (fun y wr => ∃ (i : Nat) (x : Value), i ≤ rows.length ∧ y = .int .i64 (i : Int) ∧ Blk wr gv 109 #[V0, updV xs k x 0, updV xs k x 1, updV xs k x 2] ∧ wr.ownsRow wo.heap.size 22 1 x i (U64 (vk.take i)) ∧ FromX gv wo.heap.size wo wr) (fun y _ => rows.length - (intOf y).toNat)
      case atStart => exact ⟨0, .slice none 0 0, by omega, rfl, kv1, ⟨rfl, .inl ⟨rfl, rfl⟩⟩, (fromX_moves _ _).refl _⟩
      case round =>
        clear kv1
        obtain ⟨i, x, hi, rfl, kv, hown, hfx⟩ := hrel
        have hsw : wo.heap.size ≤ wr.heap.size := hfx.2.2.2.1
        have y1 : w.heap.size < wo.heap.size := by omega
        have y2 : w.heap.size + 1 < wo.heap.size := by omega
        have y3 : gv < wo.heap.size := by omega
        have ktr := blk_fromX kt hfx y2 n4
        have hbr : Below w.heap.size w wr := hb0.trans ⟨hfx.1, hfx.2.1, hfx.2.2.1, hfx.2.2.2.1, fun b hb => hfx.2.2.2.2 b (by omega) (by omega)⟩
        have t3 := ktr.cell 3
        rw [HT3.out] at t3
        have lt := ktr.lt
        by_cases hlti : i < rows.length
        · have q2 : (i : Int) < (rows.length : Int) := by omega
          have q3 : (0 : Int) ≤ (i : Int) := by omega
          have q4 : (0 : Int) ≤ (k1 : Int) := by omega
          obtain ⟨b, q, rfl⟩ := hrd.base (by omega) (by omega)
          obtain ⟨cs, -, hc, u0, u1, u2, rfl, hu0, hu1, hu2⟩ := (hrd.below kept_RRow hbr).get hlti
          obtain ⟨cs', hl', hc', -⟩ := hrd.get hlti
          have hbw : b < w.heap.size := by
            have h := hc' 0 (by omega)
            rw [Nat.add_zero, List.getElem?_eq_getElem (by omega)] at h
            exact World.block_lt_of_cell? _ _ h
          clear hl' hc'
          have r0 : wr.cell? ⟨b, q + i * 3, none⟩ = some u0 := hc 0 (by omega)
          have r1 : wr.cell? ⟨b, q + i * 3 + 1, none⟩ = some u1 := hc 1 (by omega)
          have r2 : wr.cell? ⟨b, q + i * 3 + 2, none⟩ = some u2 := hc 2 (by omega)
          have y4 : b < wo.heap.size := by omega
          have y5 : b ≠ wo.heap.size := by omega
          have y6 : gv ≠ wo.heap.size := by omega
          have y7 : w.heap.size + 1 ≠ wo.heap.size := by omega
          have lb : b < wr.heap.size := by omega
          have t0 := ktr.cell 0
          rw [HT0.out] at t0
          obtain ⟨sel, hsel⟩ : ∃ sel, sel = (if k = 0 then u0 else if k = 1 then u1 else u2) := ⟨_, rfl⟩
          have hsr : RLin wr [sel] (sideR rows[i] k) := by
            rw [hsel]
            unfold sideR
            rcases (show k = 0 ∨ k = 1 ∨ k = 2 by omega) with h | h | h <;> subst h
            · exact hu0
            · exact hu1
            · exact hu2
          have ix1 := fun (w : World) => by have := ix w u0 u1 u2; rw [← hsel] at this; exact this
          have hz0 := RSl.slc hu0
          have hz1 := RSl.slc hu1
          have hz2 := RSl.slc hu2
          obtain ⟨As, ns, cs1, rfl⟩ := RSl.slc hsr
          have HVNi := Lib.hid (HVNk.out i hlti)
          obtain ⟨Ax, cx, rfl, -⟩ := own_form hown
          have cv : wr.cell? ⟨gv, k1, none⟩ = some (.slice Ax i cx) := by
            rw [kv.cell, HK1.out, arr_get hlt]
            simp [updV]
          obtain ⟨z, hz⟩ : ∃ z, z = linVal L.p (sideR rows[i] k) ws := ⟨_, rfl⟩
          have HV1 := Lib.hid (fun w' (hb : Below w.heap.size w w') (hl' : RLin w' [.slice As ns cs1] (sideR rows[i] k)) => by have := HVl.out As ns cs1 (sideR rows[i] k) w' hb hl'; rw [← hz] at this; exact this)
          rw [← hz] at HVNi
          have lv := kv.lt
          clear ix hsel hz hc hu0 hu1 hu2
          generalize sideR rows[i] k = lside at *
          go_upto_region 9 with fail
          refine wpV_begin (FromX wo.heap.size wo.heap.size) [13, 17, 18, 19, 21] [21] [0, 1, 2, 3, 4, 5, 6, 7, 8, 9, 10, 11, 12, 14, 16, 13, 15, 17, 18, 19, 20, 21] (by kernel_rfl) (by kernel_rfl) ?_
          refine wpV_startK (fromX_moves wo.heap.size wo.heap.size) ?_
          intro Wc HWc hacc
          have hbW : Below wr.heap.size wr Wc := by rw [HWc.out]; exact (Below.refl _ _).drew
          have hNc : wo.heap.size ≤ Wc.heap.size := by have := hbW.size; omega
          replace kv := kv.below hbW kv.lt
          replace hown := own_below hown hbW (Nat.le_refl _)
          replace hbr := below_chain hbr hbW
          replace hsr := kept_RLin _ _ _ _ hbW hsr
          replace hfx := (fromX_moves gv wo.heap.size).trans _ _ _ hfx (fromX_below hbW hsw)
          clear HWc hbW
          repeat (first | (refine wpV_skip (fromX_moves wo.heap.size wo.heap.size) rfl rfl rfl (fun _ _ _ h => h) ?_ ; simp only [Act.put, List.setIfInBounds_toArray, List.set_cons_zero, List.set_cons_succ]) | (refine wpV_light (v := ?_) (fromX_moves wo.heap.size wo.heap.size) rfl rfl rfl (fun _ _ _ h => h) ?_ ?_ ; rotate_left ; (· (intro w' hR ; (first | have hcells := fromX_cellsD ((fromX_moves wo.heap.size wo.heap.size).trans _ _ _ hacc (hR rfl)) | skip) ; clear hR ; go_simp ; try with_reducible rfl)) ; simp only [Act.put, List.setIfInBounds_toArray, List.set_cons_zero, List.set_cons_succ]))
          refine wpV_call (fromX_moves wo.heap.size wo.heap.size) rfl rfl rfl (fun _ => by go_simp <;> rfl) ((HSd.out u0 u1 u2 _ hz0 hz1 hz2).mono ?_)
          rintro e w5 ⟨rfl, hb5⟩
          refine ⟨_, rfl, fun _ => fromX_below hb5 hNc, ?_⟩
          replace hacc := (fromX_moves wo.heap.size wo.heap.size).trans _ _ _ hacc (fromX_below hb5 hNc)
          simp only [Act.put, List.setIfInBounds_toArray, List.set_cons_zero, List.set_cons_succ]
          have hN5 : wo.heap.size ≤ w5.heap.size := by have := hb5.size; omega
          replace kv := kv.below hb5 kv.lt
          replace hown := own_below hown hb5 (Nat.le_refl _)
          replace hbr := below_chain hbr hb5
          replace hsr := kept_RLin _ _ _ _ hb5 hsr
          replace hfx := (fromX_moves gv wo.heap.size).trans _ _ _ hfx (fromX_below hb5 hNc)
          clear hb5
          repeat (first | (refine wpV_skip (fromX_moves wo.heap.size wo.heap.size) rfl rfl rfl (fun _ _ _ h => h) ?_ ; simp only [Act.put, List.setIfInBounds_toArray, List.set_cons_zero, List.set_cons_succ]) | (refine wpV_light (v := ?_) (fromX_moves wo.heap.size wo.heap.size) rfl rfl rfl (fun _ _ _ h => h) ?_ ?_ ; rotate_left ; (· (intro w' hR ; (first | have hcells := fromX_cellsD ((fromX_moves wo.heap.size wo.heap.size).trans _ _ _ hacc (hR rfl)) | skip) ; clear hR ; go_simp ; try with_reducible rfl)) ; simp only [Act.put, List.setIfInBounds_toArray, List.set_cons_zero, List.set_cons_succ]))
          refine wpV_call (fromX_moves wo.heap.size wo.heap.size) rfl rfl rfl (fun _ => by go_simp <;> rfl) ((HV1.out _ hbr hsr).mono ?_)
          rintro e w6 ⟨rfl, hb6⟩
          refine ⟨_, rfl, fun _ => fromX_below hb6 hN5, ?_⟩
          replace hacc := (fromX_moves wo.heap.size wo.heap.size).trans _ _ _ hacc (fromX_below hb6 hN5)
          simp only [Act.put, List.setIfInBounds_toArray, List.set_cons_zero, List.set_cons_succ]
          have hN6 : wo.heap.size ≤ w6.heap.size := by have := hb6.size; omega
          replace kv := kv.below hb6 kv.lt
          replace hown := own_below hown hb6 (Nat.le_refl _)
          replace hbr := below_chain hbr hb6
          replace hfx := (fromX_moves gv wo.heap.size).trans _ _ _ hfx (fromX_below hb6 hN5)
          clear hb6 hsr
          repeat (first | (refine wpV_skip (fromX_moves wo.heap.size wo.heap.size) rfl rfl rfl (fun _ _ _ h => h) ?_ ; simp only [Act.put, List.setIfInBounds_toArray, List.set_cons_zero, List.set_cons_succ]) | (refine wpV_light (v := ?_) (fromX_moves wo.heap.size wo.heap.size) rfl rfl rfl (fun _ _ _ h => h) ?_ ?_ ; rotate_left ; (· (intro w' hR ; (first | have hcells := fromX_cellsD ((fromX_moves wo.heap.size wo.heap.size).trans _ _ _ hacc (hR rfl)) | skip) ; clear hR ; go_simp ; try with_reducible rfl)) ; simp only [Act.put, List.setIfInBounds_toArray, List.set_cons_zero, List.set_cons_succ]))
          refine wpV_heavy (fromX_moves wo.heap.size wo.heap.size) rfl rfl rfl ?_
          go_simp
          have hal := (Below.refl w6.heap.size w6).alloc (Nat.le_refl _) (.cells #[.int .u64 (z : Int)] 22)
          have hrd1 := rd_one w6 (.int .u64 (z : Int)) 22
          refine ⟨fun _ => fromX_below hal hN6, ?_⟩
          replace kv := kv.below hal kv.lt
          replace hown := own_below hown hal (Nat.le_refl _)
          replace hbr := below_chain hbr hal
          replace hfx := (fromX_moves gv wo.heap.size).trans _ _ _ hfx (fromX_below hal hN6)
          have hN7 := Nat.le_trans hN6 hal.size
          try simp only [Act.put, List.setIfInBounds_toArray, List.set_cons_zero, List.set_cons_succ]
          generalize w6.alloc _ = w7 at kv hown hfx hrd1 hbr hN7 ⊢
          generalize w6.heap.size = g6 at hrd1 ⊢
          clear hal hN6 hN5 hacc t0 t3 r0 r1 r2 cv
          have hacc := (fromX_moves wo.heap.size wo.heap.size).refl w7
          repeat (first | (refine wpV_skip (fromX_moves wo.heap.size wo.heap.size) rfl rfl rfl (fun _ _ _ h => h) ?_ ; simp only [Act.put, List.setIfInBounds_toArray, List.set_cons_zero, List.set_cons_succ]) | (refine wpV_light (v := ?_) (fromX_moves wo.heap.size wo.heap.size) rfl rfl rfl (fun _ _ _ h => h) ?_ ?_ ; rotate_left ; (· (intro w' hR ; (first | have hcells := fromX_cellsD ((fromX_moves wo.heap.size wo.heap.size).trans _ _ _ hacc (hR rfl)) | skip) ; clear hR ; go_simp ; try with_reducible rfl)) ; simp only [Act.put, List.setIfInBounds_toArray, List.set_cons_zero, List.set_cons_succ]))
          refine wpV_heavy (fromX_moves wo.heap.size wo.heap.size) rfl rfl rfl ?_
          refine wp_append_rd _ _ rfl el_w rfl hown rfl hrd1 (one_U64 [z]) (by omega) hN7 ?_
          intro v' wn hown' hgrow hblk
          have hvb : ∀ q, (Value.slice Ax i cx).ownBlock = some q → wo.heap.size ≤ q := fun q e => (hown.lt q e).1
          refine ⟨fun _ => fromX_row hgrow hN7 hvb, ?_⟩
          replace kv := kv.grown hgrow (fun e => by first | (have := hvb _ e; omega) | (have := hvb _ e.symm; omega))
          replace hfx := (fromX_moves gv wo.heap.size).trans _ _ _ hfx (fromX_row hgrow hN7 hvb)
          replace hown' : wn.ownsRow wo.heap.size 22 1 v' (i + 1) (U64 (vk.take (i + 1))) := lw_app (b := [z]) hown' HVNi.out
          obtain ⟨Aw, cw, rfl, -⟩ := own_form hown'
          have hNn := Nat.le_trans hN7 hgrow.size
          clear hown hgrow hblk hvb hN7 hrd1 hacc
          have hacc := (fromX_moves wo.heap.size wo.heap.size).refl wn
          have cv : wn.cell? ⟨gv, k1, none⟩ = some (.slice Ax i cx) := by
            rw [kv.cell, HK1.out, arr_get hlt]
            simp [updV]
          have fv2 := kv.frozen
          try simp only [Act.put, List.setIfInBounds_toArray, List.set_cons_zero, List.set_cons_succ]
          repeat (first | (refine wpV_skip (fromX_moves wo.heap.size wo.heap.size) rfl rfl rfl (fun _ _ _ h => h) ?_ ; simp only [Act.put, List.setIfInBounds_toArray, List.set_cons_zero, List.set_cons_succ]) | (refine wpV_light (v := ?_) (fromX_moves wo.heap.size wo.heap.size) rfl rfl rfl (fun _ _ _ h => h) ?_ ?_ ; rotate_left ; (· (intro w' hR ; (first | have hcells := fromX_cellsD ((fromX_moves wo.heap.size wo.heap.size).trans _ _ _ hacc (hR rfl)) | skip) ; clear hR ; go_simp ; try with_reducible rfl)) ; simp only [Act.put, List.setIfInBounds_toArray, List.set_cons_zero, List.set_cons_succ]))
          refine wpV_heavy (fromX_moves wo.heap.size wo.heap.size) rfl rfl rfl ?_
          go_simp
          refine ⟨fun h => Bool.noConfusion h, ?_⟩
          have hsg := set_only (w := wn) gv k1 (.slice Aw (i + 1) cw)
          replace kv := kv.set_ k1 (.slice Aw (i + 1) cw)
          rw [HK1.out, arr_set hlt, updV_twice, ← HK1.out] at kv
          have hown2 := own_stay hown' hsg y3
          replace hfx := (fromX_moves gv wo.heap.size).trans _ _ _ hfx (fromX_grown hsg hNn)
          clear hown' hsg cv fv2 hacc
          generalize wn.setCell _ _ = wz at kv hown2 hfx ⊢
          have hacc := (fromX_moves wo.heap.size wo.heap.size).refl wz
          repeat (first | (refine wpV_skip (fromX_moves wo.heap.size wo.heap.size) rfl rfl rfl (fun _ _ _ h => h) ?_ ; simp only [Act.put, List.setIfInBounds_toArray, List.set_cons_zero, List.set_cons_succ]) | (refine wpV_light (v := ?_) (fromX_moves wo.heap.size wo.heap.size) rfl rfl rfl (fun _ _ _ h => h) ?_ ?_ ; rotate_left ; (· (intro w' hR ; (first | have hcells := fromX_cellsD ((fromX_moves wo.heap.size wo.heap.size).trans _ _ _ hacc (hR rfl)) | skip) ; clear hR ; go_simp ; try with_reducible rfl)) ; simp only [Act.put, List.setIfInBounds_toArray, List.set_cons_zero, List.set_cons_succ]))
          refine wpV_done ?_
          go_wp2
          go_roundw
          case rel => exact ⟨i + 1, .slice Aw (i + 1) cw, by omega, by go_num, kv, hown2, hfx⟩
          case measure => simp [intOf]; omega
        · obtain rfl : i = rows.length := by omega
          have q2 : ¬ ((rows.length : Int) < (rows.length : Int)) := by omega
          rw [HVAk.out] at hown
          have klr := blk_fromX kl hfx y1 n3
          have hx := rwx_own (N := gv + 1) (gb := none) hown HVTk.out (by omega) (fun q e => by cases e)
          have HVK' := HVK.out
          have HD2 := Lib.hid (show ∀ j, j < k + 1 → RWx (gv + 1) none wr (updV xs k x j) (vals j) from fun j hj => by
            unfold updV
            split
            · rename_i h; rw [h, ← HVK']; exact hx
            · rename_i h
              refine rwx_keep (HDN.out j (by omega)) hsw fun b h1 h2 _ => hfx.2.2.2.2 b h2 (by omega))
          have HT2 := Lib.hid (show ∀ j, k + 1 ≤ j → updV xs k x j = .slice none 0 0 from fun j hj => by
            unfold updV
            rw [if_neg (by omega)]
            exact HTD.out j (by omega))
          clear hx HVK'
          go_wp2_with fail
          go_roundw
          case rel => exact ⟨k + 1, updV xs k x, by omega, by go_num, klr, ktr, kv, HD2.out, HT2.out, hbr, by omega⟩
          case measure => simp [intOf]; omega
    · obtain rfl : k = 3 := by omega
      have h0 := rwx_here (hdone 0 (by omega))
      have h1 := rwx_here (hdone 1 (by omega))
      have h2 := rwx_here (hdone 2 (by omega))
      obtain ⟨A1, c1, e1⟩ := rwd_form h0
      obtain ⟨A2, c2, e2⟩ := rwd_form h1
      obtain ⟨A3, c3, e3⟩ := rwd_form h2
      have hv := kept_RWd _ _ _ _ hb0 hv0
      have HH := Lib.hid (fun (w' : World) (hb : Below wr.heap.size wr w') => HCut.out V0 (xs 0) (xs 1) (xs 2) (ws.drop s) (vals 0) (vals 1) (vals 2) w' fun i hi => by
        rcases (show i = 0 ∨ i = 1 ∨ i = 2 ∨ i = 3 by omega) with rfl | rfl | rfl | rfl
        · exact kept_RWd _ _ _ _ hb hv
        · exact kept_RWd _ _ _ _ hb h0
        · exact kept_RWd _ _ _ _ hb h1
        · exact kept_RWd _ _ _ _ hb h2)
      rw [e1, e2, e3, HV0.out] at kv HH
      have cl := kl.cell
      have cv := kv.cell
      have ll := kl.lt
      have lv := kv.lt
      clear hdone htodo h0 h1 h2 hv e1 e2 e3
      unfold layCs at HH
      go_wp2_with fail
      refine (HH.out _ (Below.refl _ _)).mono ?_
      rintro e w9 ⟨v, rfl, hv, hbx⟩
      go_wp2
      go_ret
      exact ⟨_, rfl, hv, below_chain hb0 hbx⟩
end Go.Proofs.Ytefnagiffllhbaa

/- FftM -/
namespace Go.Proofs.Ytefnagiffllhbaa

/-- Congruence. -/
def Cg (p : Nat) (x y : Int) : Prop := (p : Int) ∣ x - y
theorem Cg.rfl' {p : Nat} {x : Int} : Cg p x x := ⟨0, by omega⟩
theorem Cg.of_eq {p : Nat} {x y : Int} (h : x = y) : Cg p x y := h ▸ Cg.rfl'
theorem Cg.symm {p : Nat} {x y : Int} (h : Cg p x y) : Cg p y x := by
  obtain ⟨c, hc⟩ := h
  exact ⟨-c, by rw [Int.mul_neg, ← hc]; omega⟩
theorem Cg.trans {p : Nat} {x y z : Int} (h : Cg p x y) (h2 : Cg p y z) : Cg p x z := by
  obtain ⟨c, hc⟩ := h
  obtain ⟨d, hd⟩ := h2
  exact ⟨c + d, by rw [Int.mul_add, ← hc, ← hd]; omega⟩
theorem Cg.add {p : Nat} {x y u v : Int} (h : Cg p x y) (h2 : Cg p u v) : Cg p (x + u) (y + v) := by
  obtain ⟨c, hc⟩ := h
  obtain ⟨d, hd⟩ := h2
  exact ⟨c + d, by rw [Int.mul_add, ← hc, ← hd]; omega⟩
theorem Cg.mul {p : Nat} {x y u v : Int} (h : Cg p x y) (h2 : Cg p u v) : Cg p (x * u) (y * v) := by
  obtain ⟨c, hc⟩ := h
  obtain ⟨d, hd⟩ := h2
  refine ⟨c * u + y * d, ?_⟩
  have e : x * u - y * v = (x - y) * u + y * (u - v) := by rw [Int.sub_mul, Int.mul_sub]; omega
  rw [e, hc, hd, Int.mul_add, Int.mul_assoc, ← Int.mul_assoc y, Int.mul_comm y (p : Int), Int.mul_assoc]
theorem Cg.neg {p : Nat} {x y : Int} (h : Cg p x y) : Cg p (-x) (-y) := by
  obtain ⟨c, hc⟩ := h
  exact ⟨-c, by rw [Int.mul_neg, ← hc]; omega⟩
theorem Cg.mod {p : Nat} (x : Nat) : Cg p ((x % p : Nat) : Int) (x : Int) := by
  refine ⟨-((x / p : Nat) : Int), ?_⟩
  have h := Nat.div_add_mod x p
  have h2 : ((p * (x / p) + x % p : Nat) : Int) = (x : Int) := by rw [h]
  rw [Int.natCast_add, Int.natCast_mul] at h2
  rw [Int.mul_neg]
  omega
theorem Cg.self {p : Nat} : Cg p (p : Int) 0 := ⟨1, by omega⟩
theorem Cg.pow {p : Nat} {x y : Int} (h : Cg p x y) (k : Nat) : Cg p (x ^ k) (y ^ k) := by
  induction k with
  | zero => exact Cg.of_eq (by rw [Int.pow_zero, Int.pow_zero])
  | succ k ih => rw [Int.pow_succ, Int.pow_succ]; exact ih.mul h
/-- Two residues that are congruent are equal. -/
theorem Cg.eq {p a b : Nat} (h : Cg p (a : Int) (b : Int)) (ha : a < p) (hb : b < p) : a = b := by
  obtain ⟨c, hc⟩ := h
  rcases Int.lt_trichotomy c 0 with h1 | h1 | h1
  · have : (p : Int) * c ≤ (p : Int) * (-1) := Int.mul_le_mul_of_nonneg_left (by omega) (by omega)
    omega
  · subst h1; omega
  · have : (p : Int) * 1 ≤ (p : Int) * c := Int.mul_le_mul_of_nonneg_left (by omega) (by omega)
    omega

/-- The value of a polynomial with n coefficients. -/
def evI (a : Nat → Int) (x : Int) : Nat → Int
  | 0 => 0
  | n + 1 => evI a x n + a n * x ^ n
theorem evI_cg {p : Nat} {a b : Nat → Int} {x y : Int} (h : ∀ i, Cg p (a i) (b i)) (hx : Cg p x y) : ∀ n, Cg p (evI a x n) (evI b y n)
  | 0 => Cg.rfl'
  | n + 1 => (evI_cg h hx n).add ((h n).mul (hx.pow n))
theorem evI_split (a : Nat → Int) (x : Int) : ∀ n, evI a x (2 * n) = evI (fun i => a (2 * i)) (x * x) n + x * evI (fun i => a (2 * i + 1)) (x * x) n
  | 0 => by simp [evI]
  | n + 1 => by
    have e : (x * x) ^ n = x ^ (2 * n) := by rw [Int.pow_mul]; congr 1; rw [Int.pow_succ, Int.pow_succ, Int.pow_zero, Int.one_mul]
    show evI a x (2 * n) + a (2 * n) * x ^ (2 * n) + a (2 * n + 1) * x ^ (2 * n + 1) = _
    rw [evI_split a x n]
    show _ = (evI (fun i => a (2 * i)) (x * x) n + a (2 * n) * (x * x) ^ n) + x * (evI (fun i => a (2 * i + 1)) (x * x) n + a (2 * n + 1) * (x * x) ^ n)
    rw [e, Int.pow_succ]
    grind
theorem powI_cg (p w : Nat) : ∀ k, Cg p (powI p w k : Int) ((w : Int) ^ k)
  | 0 => Cg.rfl'
  | k + 1 => by
    show Cg p ((powI p w k * w % p : Nat) : Int) _
    refine (Cg.mod _).trans ?_
    rw [Int.natCast_mul, Int.pow_succ]
    exact (powI_cg p w k).mul Cg.rfl'
theorem negP_cg (p a : Nat) (hp : 0 < p) : Cg p (negP p a : Int) (-(a : Int)) := by
  have h1 : Cg p ((a % p : Nat) : Int) (a : Int) := Cg.mod a
  refine Cg.trans ?_ h1.neg
  have h := Nat.mod_lt a hp
  unfold negP
  split
  · rename_i h0
    rw [h0]
    exact Cg.rfl'
  · exact ⟨1, by omega⟩

/-- The transform gives the values at the powers of w. -/
theorem fftP_ev (p : Nat) (hp : 0 < p) : ∀ (j : Nat) (a : Nat → Nat) (w : Nat), (j = 0 ∨ Cg p ((w : Int) ^ (2 ^ (j - 1))) (-1)) → ∀ k, k < 2 ^ j → Cg p (fftP p j a w k : Int) (evI (fun i => (a i : Int)) ((w : Int) ^ k) (2 ^ j))
  | 0, a, w, _, k, hk => by
    obtain rfl : k = 0 := by omega
    show Cg p (a 0 : Int) _
    exact Cg.of_eq (by simp [evI])
  | j + 1, a, w, hw, k, hk => by
    have hw1 : Cg p ((w : Int) ^ (2 ^ j)) (-1) := by rcases hw with h | h; · omega
                                                     · exact h
    have hw2 : j = 0 ∨ Cg p (((w * w % p : Nat) : Int) ^ (2 ^ (j - 1))) (-1) := by
      rcases Nat.eq_zero_or_pos j with h | h
      · exact Or.inl h
      · refine Or.inr (((Cg.mod (p := p) (w * w)).pow _).trans ?_)
        have e : ((w * w : Nat) : Int) ^ (2 ^ (j - 1)) = (w : Int) ^ (2 ^ j) := by
          rw [Int.natCast_mul, show 2 ^ j = 2 * 2 ^ (j - 1) by rw [Nat.mul_comm, ← Nat.pow_succ]; congr 1; omega, Int.pow_mul]
          congr 1
          rw [Int.pow_succ, Int.pow_succ, Int.pow_zero, Int.one_mul]
        rw [e]
        exact hw1
    have key : ∀ i, i < 2 ^ j → ∀ x : Int, Cg p (x * x) (((w : Int) ^ i) * ((w : Int) ^ i)) → Cg p ((fftP p j (fun i => a (2 * i)) (w * w % p) i : Int) + x * (fftP p j (fun i => a (2 * i + 1)) (w * w % p) i : Int)) (evI (fun i => (a i : Int)) x (2 ^ (j + 1))) := by
      intro i hi x hx
      have e0 : Cg p (((w * w % p : Nat) : Int) ^ i) (x * x) := by
        refine ((Cg.mod (p := p) (w * w)).pow _).trans (Cg.trans (Cg.of_eq ?_) hx.symm)
        rw [Int.natCast_mul, Int.mul_pow]
      have h1 := (fftP_ev p hp j (fun i => a (2 * i)) (w * w % p) hw2 i hi).trans (evI_cg (fun _ => Cg.rfl') e0 _)
      have h2 := (fftP_ev p hp j (fun i => a (2 * i + 1)) (w * w % p) hw2 i hi).trans (evI_cg (fun _ => Cg.rfl') e0 _)
      rw [show 2 ^ (j + 1) = 2 * 2 ^ j by rw [Nat.pow_succ, Nat.mul_comm], evI_split]
      exact h1.add (Cg.rfl'.mul h2)
    rw [fftP]
    simp only []
    split
    · rename_i hlt
      refine (Cg.mod _).trans (Cg.trans ?_ (key k hlt ((w : Int) ^ k) Cg.rfl'))
      rw [Int.natCast_add]
      refine Cg.rfl'.add ((Cg.mod _).trans ?_)
      rw [Int.natCast_mul]
      exact (powI_cg p w k).mul Cg.rfl'
    · rename_i hge
      obtain ⟨i, rfl⟩ : ∃ i, k = 2 ^ j + i := ⟨k - 2 ^ j, by omega⟩
      have hi : i < 2 ^ j := by rw [Nat.pow_succ] at hk; omega
      rw [Nat.add_sub_cancel_left]
      have ex : Cg p ((w : Int) ^ (2 ^ j + i)) (-((w : Int) ^ i)) := by
        rw [Int.pow_add]
        refine (hw1.mul Cg.rfl').trans (Cg.of_eq (by omega))
      refine (Cg.mod _).trans (Cg.trans ?_ (key i hi ((w : Int) ^ (2 ^ j + i)) ?_))
      · rw [Int.natCast_add]
        refine Cg.rfl'.add ((negP_cg p _ hp).trans ?_)
        refine ((Cg.mod _).neg).trans ?_
        rw [Int.natCast_mul]
        refine (((powI_cg p w i).mul Cg.rfl').neg).trans ?_
        rw [← Int.neg_mul]
        exact ex.symm.mul Cg.rfl'
      · refine (ex.mul ex).trans (Cg.of_eq ?_)
        rw [Int.neg_mul_neg]
end Go.Proofs.Ytefnagiffllhbaa

/- FftN -/
namespace Go.Proofs.Ytefnagiffllhbaa

/-- A power by squaring. -/
def sqm (p : Nat) : Nat → Nat → Nat → Nat
  | 0, _, _ => 1
  | f + 1, b, e => if e % 2 = 1 then b * sqm p f (b * b % p) (e / 2) % p else sqm p f (b * b % p) (e / 2)
theorem sqm_cg (p : Nat) : ∀ (f b e : Nat), e < 2 ^ f → Cg p (sqm p f b e : Int) ((b : Int) ^ e)
  | 0, b, e, h => by
    obtain rfl : e = 0 := by omega
    exact Cg.of_eq (by simp [sqm])
  | f + 1, b, e, h => by
    have h2 : e / 2 < 2 ^ f := by rw [Nat.pow_succ] at h; omega
    have ih := (sqm_cg p f (b * b % p) (e / 2) h2).trans ((Cg.mod (p := p) (b * b)).pow _)
    have e1 : ((b * b : Nat) : Int) ^ (e / 2) = (b : Int) ^ (2 * (e / 2)) := by
      rw [Int.natCast_mul, Int.pow_mul]
      congr 1
      rw [Int.pow_succ, Int.pow_succ, Int.pow_zero, Int.one_mul]
    rw [e1] at ih
    rw [sqm]
    split
    · rename_i h1
      refine (Cg.mod _).trans ?_
      rw [Int.natCast_mul, show (b : Int) ^ e = (b : Int) * (b : Int) ^ (2 * (e / 2)) by rw [Int.mul_comm, ← Int.pow_succ]; congr 1; omega]
      exact Cg.rfl'.mul ih
    · rw [show 2 * (e / 2) = e by omega] at ih
      exact ih
theorem gen_half {p : Nat} (h : okP p = true) : sqm p 64 (rowOf p).1 ((p - 1) / 2) = p - 1 ∧ (p - 1) % 2 = 0 ∧ (p - 1) / 2 < 2 ^ 64 := by
  rcases okP_cases h with rfl | rfl | rfl | rfl | rfl | rfl | rfl <;> decide +kernel
theorem gen_neg {p : Nat} (h : okP p = true) : Cg p (((rowOf p).1 : Int) ^ ((p - 1) / 2)) (-1) := by
  obtain ⟨h1, -, h3⟩ := gen_half h
  have h4 := sqm_cg p 64 (rowOf p).1 ((p - 1) / 2) h3
  rw [h1] at h4
  refine h4.symm.trans ⟨1, ?_⟩
  have := (okP_lt h).1
  omega
theorem root_half {p n j : Nat} (h : okP p = true) (hn : LenOk p n) (hj : n = 2 ^ j) : j = 0 ∨ Cg p ((rootP p n : Int) ^ (2 ^ (j - 1))) (-1) := by
  rcases Nat.eq_zero_or_pos j with h0 | h0
  · exact Or.inl h0
  · right
    refine ((Cg.mod (p := p) _).pow _).trans (Cg.trans (Cg.of_eq ?_) (gen_neg h))
    rw [Int.natCast_pow, ← Int.pow_mul]
    congr 1
    have e : n = 2 * 2 ^ (j - 1) := by rw [hj, Nat.mul_comm, ← Nat.pow_succ]; congr 1; omega
    have hd := hn.dvd
    have hpos := hn.pos
    obtain ⟨q, hq⟩ : ∃ q, p - 1 = n * q := ⟨(p - 1) / n, by have := Nat.div_add_mod (p - 1) n; omega⟩
    rw [hq, Nat.mul_div_cancel_left _ (by omega), e, Nat.mul_assoc, Nat.mul_div_cancel_left _ (by omega), Nat.mul_comm]
end Go.Proofs.Ytefnagiffllhbaa

/- FftO -/
namespace Go.Proofs.Ytefnagiffllhbaa

theorem two_fermat {p : Nat} (h : okP p = true) : sqm p 64 2 (p - 1) = 1 ∧ sqm p 64 (rowOf p).1 (p - 1) = 1 ∧ p - 1 < 2 ^ 64 := by
  rcases okP_cases h with rfl | rfl | rfl | rfl | rfl | rfl | rfl <;> decide +kernel
theorem two_one {p : Nat} (h : okP p = true) : Cg p ((2 : Int) ^ (p - 1)) 1 := by
  obtain ⟨h1, -, h3⟩ := two_fermat h
  have h4 := sqm_cg p 64 2 (p - 1) h3
  rw [h1] at h4
  exact h4.symm
theorem gen_one {p : Nat} (h : okP p = true) : Cg p (((rowOf p).1 : Int) ^ (p - 1)) 1 := by
  obtain ⟨-, h1, h3⟩ := two_fermat h
  have h4 := sqm_cg p 64 (rowOf p).1 (p - 1) h3
  rw [h1] at h4
  exact h4.symm
/-- n * n^(p-2) = 1 for a power of two. -/
theorem inv_two {p n j : Nat} (h : okP p = true) (hj : n = 2 ^ j) : Cg p ((n : Int) * ((n ^ (p - 2) % p : Nat) : Int)) 1 := by
  have hp := okP_lt h
  refine (Cg.rfl'.mul (Cg.mod _)).trans ?_
  have e : (n : Int) * ((n ^ (p - 2) : Nat) : Int) = ((2 : Int) ^ (p - 1)) ^ j := by
    rw [Int.natCast_pow, hj, Int.natCast_pow, Int.mul_comm, ← Int.pow_succ, ← Int.pow_mul, ← Int.pow_mul, Nat.succ_eq_add_one, show p - 2 + 1 = p - 1 by omega, Nat.mul_comm]
    rfl
  rw [e]
  refine ((two_one h).pow j).trans (Cg.of_eq ?_)
  exact Int.one_pow
/-- The root of order n, and its inverse. -/
theorem root_one {p n : Nat} (h : okP p = true) (hn : LenOk p n) : Cg p ((rootP p n : Int) ^ n) 1 := by
  refine ((Cg.mod (p := p) _).pow _).trans (Cg.trans (Cg.of_eq ?_) (gen_one h))
  rw [Int.natCast_pow, ← Int.pow_mul]
  congr 1
  have hd := hn.dvd
  have := Nat.div_add_mod (p - 1) n
  rw [Nat.mul_comm]
  omega
theorem inv_root {p n : Nat} (h : okP p = true) (hn : LenOk p n) : Cg p ((rootP p n : Int) * ((rootP p n ^ (p - 2) % p : Nat) : Int)) 1 := by
  have hp := okP_lt h
  refine (Cg.rfl'.mul (Cg.mod _)).trans ?_
  have e : (rootP p n : Int) * ((rootP p n ^ (p - 2) : Nat) : Int) = ((rootP p n : Int) ^ n) ^ ((p - 1) / n) := by
    have hd := hn.dvd
    have h2 := Nat.div_add_mod (p - 1) n
    rw [Int.natCast_pow, Int.mul_comm, ← Int.pow_succ, ← Int.pow_mul]
    congr 1
    omega
  rw [e]
  exact ((root_one h hn).pow _).trans (Cg.of_eq Int.one_pow)
end Go.Proofs.Ytefnagiffllhbaa

/- FftP -/
namespace Go.Proofs.Ytefnagiffllhbaa

theorem evI_one_zero {p : Nat} : ∀ (j : Nat) (x : Int) (t : Nat), t < j → Cg p (x ^ (2 ^ t)) (-1) → Cg p (evI (fun _ => 1) x (2 ^ j)) 0
  | 0, _, t, ht, _ => absurd ht (Nat.not_lt_zero t)
  | j + 1, x, t, ht, hx => by
    rw [show 2 ^ (j + 1) = 2 * 2 ^ j by rw [Nat.pow_succ, Nat.mul_comm], evI_split]
    show Cg p (evI (fun _ => 1) (x * x) (2 ^ j) + x * evI (fun _ => 1) (x * x) (2 ^ j)) 0
    cases t with
    | zero =>
      rw [Nat.pow_zero, Int.pow_succ, Int.pow_zero, Int.one_mul] at hx
      exact (Cg.rfl'.add (hx.mul Cg.rfl')).trans (Cg.of_eq (by omega))
    | succ t =>
      have ih := evI_one_zero j (x * x) t (by omega) (by
        refine Cg.trans (Cg.of_eq ?_) hx
        rw [show x * x = x ^ 2 by rw [Int.pow_succ, Int.pow_succ, Int.pow_zero, Int.one_mul], ← Int.pow_mul]
        congr 1
        rw [Nat.pow_succ, Nat.mul_comm])
      exact (ih.add (Cg.rfl'.mul ih)).trans (Cg.of_eq (by omega))
theorem odd_neg : ∀ o : Nat, (-1 : Int) ^ (2 * o + 1) = -1
  | 0 => by decide
  | o + 1 => by rw [show 2 * (o + 1) + 1 = (2 * o + 1) + 1 + 1 by omega, Int.pow_succ, Int.pow_succ, odd_neg o]; decide
theorem some_neg {p : Nat} : ∀ (j : Nat) (w : Int) (d : Nat), Cg p (w ^ (2 ^ (j - 1))) (-1) → 0 < d → d < 2 ^ j → ∃ t, t < j ∧ Cg p ((w ^ d) ^ (2 ^ t)) (-1)
  | 0, _, d, _, h0, h1 => by omega
  | j + 1, w, d, hw, h0, h1 => by
    rcases Nat.mod_two_eq_zero_or_one d with h | h
    · obtain ⟨e, rfl⟩ : ∃ e, d = 2 * e := ⟨d / 2, by omega⟩
      have hj : j ≠ 0 := by rintro rfl; omega
      have he : e < 2 ^ j := by rw [Nat.pow_succ] at h1; omega
      obtain ⟨t, ht, hc⟩ := some_neg j (w ^ 2) e (by
        refine Cg.trans (Cg.of_eq ?_) hw
        rw [← Int.pow_mul]
        congr 1
        show 2 * 2 ^ (j - 1) = 2 ^ j
        rw [Nat.mul_comm, ← Nat.pow_succ]
        congr 1
        omega) (by omega) he
      exact ⟨t, by omega, by rw [Int.pow_mul (a := w)]; exact hc⟩
    · obtain ⟨o, rfl⟩ : ∃ o, d = 2 * o + 1 := ⟨d / 2, by omega⟩
      refine ⟨j, by omega, ?_⟩
      rw [← Int.pow_mul, Nat.mul_comm, Int.pow_mul]
      exact (Cg.pow hw _).trans (Cg.of_eq (odd_neg o))
/-- The sum of the powers of a root that is not 1. -/
theorem root_sum {p j d : Nat} {w : Int} (hw : Cg p (w ^ (2 ^ (j - 1))) (-1)) (h0 : 0 < d) (h1 : d < 2 ^ j) : Cg p (evI (fun _ => 1) (w ^ d) (2 ^ j)) 0 := by
  obtain ⟨t, ht, hc⟩ := some_neg j w d hw h0 h1
  exact evI_one_zero j _ t ht hc
end Go.Proofs.Ytefnagiffllhbaa

/- FftQ -/
namespace Go.Proofs.Ytefnagiffllhbaa

def sumI (f : Nat → Int) : Nat → Int
  | 0 => 0
  | n + 1 => sumI f n + f n
theorem evI_sum (a : Nat → Int) (x : Int) : ∀ n, evI a x n = sumI (fun i => a i * x ^ i) n
  | 0 => rfl
  | n + 1 => by rw [evI, sumI, evI_sum a x n]
theorem sumI_cg {p : Nat} {f g : Nat → Int} : ∀ n, (∀ i, i < n → Cg p (f i) (g i)) → Cg p (sumI f n) (sumI g n)
  | 0, _ => Cg.rfl'
  | n + 1, h => (sumI_cg n fun i hi => h i (by omega)).add (h n (by omega))
theorem sumI_mul (c : Int) (f : Nat → Int) : ∀ n, c * sumI f n = sumI (fun i => c * f i) n
  | 0 => by simp [sumI]
  | n + 1 => by rw [sumI, sumI, Int.mul_add, sumI_mul c f n]
theorem sumI_add (f g : Nat → Int) : ∀ n, sumI (fun i => f i + g i) n = sumI f n + sumI g n
  | 0 => rfl
  | n + 1 => by rw [sumI, sumI, sumI, sumI_add f g n]; omega
theorem sumI_zero : ∀ n, sumI (fun _ => 0) n = 0
  | 0 => rfl
  | n + 1 => by rw [sumI, sumI_zero n]; rfl
theorem sumI_swap (f : Nat → Nat → Int) (m : Nat) : ∀ n, sumI (fun i => sumI (fun k => f i k) m) n = sumI (fun k => sumI (fun i => f i k) n) m
  | 0 => by simp only [sumI]; rw [sumI_zero]
  | n + 1 => by
    rw [sumI, sumI_swap f m n, ← sumI_add]
    rfl
theorem sumI_one {p n q : Nat} {f : Nat → Int} {y : Int} (hq : q < n) (h0 : ∀ k, k < n → k ≠ q → Cg p (f k) 0) (h1 : Cg p (f q) y) : Cg p (sumI f n) y := by
  induction n with
  | zero => omega
  | succ n ih =>
    rw [sumI]
    by_cases e : q = n
    · subst e
      have hz : Cg p (sumI f q) (sumI (fun _ => 0) q) := sumI_cg q fun i hi => h0 i (by omega) (by omega)
      rw [sumI_zero] at hz
      exact (hz.add h1).trans (Cg.of_eq (by omega))
    · exact ((ih (by omega) fun k hk hne => h0 k (by omega) hne).add (h0 n (by omega) (by omega))).trans (Cg.of_eq (by omega))
theorem evI_ones : ∀ n : Nat, evI (fun _ => 1) 1 n = (n : Int)
  | 0 => rfl
  | n + 1 => by rw [evI, evI_ones n, Int.one_pow]; omega

theorem half_inv {p j : Nat} {w v : Int} (hw : Cg p (w ^ (2 ^ (j - 1))) (-1)) (hv : Cg p (w * v) 1) : Cg p (v ^ (2 ^ (j - 1))) (-1) := by
  have h1 := hv.pow (2 ^ (j - 1))
  rw [Int.mul_pow, Int.one_pow] at h1
  have h2 := ((hw.mul (Cg.rfl' (x := v ^ (2 ^ (j - 1))))).symm.trans h1).neg
  exact Cg.trans (Cg.of_eq (by omega)) h2
theorem inv_pow {p : Nat} {w v : Int} (hv : Cg p (w * v) 1) (q : Nat) : Cg p (v ^ q * w ^ q) 1 := by
  rw [← Int.mul_pow, Int.mul_comm v w]
  exact (hv.pow q).trans (Cg.of_eq Int.one_pow)

/-- The polynomial with the coefficients s * (the value at v^i) takes the value m q at w^q. -/
theorem inv_eval {p n j : Nat} (m : Nat → Int) (w v s : Int) (hn : n = 2 ^ j) (hw : j = 0 ∨ Cg p (w ^ (2 ^ (j - 1))) (-1)) (hv : Cg p (w * v) 1) (hs : Cg p ((n : Int) * s) 1) (q : Nat) (hq : q < n) :
    Cg p (evI (fun i => s * evI m (v ^ i) n) (w ^ q) n) (m q) := by
  have hx : ∀ k, k < n → k ≠ q → Cg p (evI (fun _ => 1) (v ^ k * w ^ q) n) 0 := by
    intro k hk hne
    have hj : j ≠ 0 := by rintro rfl; omega
    have hw1 : Cg p (w ^ (2 ^ (j - 1))) (-1) := hw.resolve_left hj
    rcases Nat.lt_or_gt_of_ne hne with h | h
    · have e : Cg p (v ^ k * w ^ q) (w ^ (q - k)) := by
        obtain ⟨d, rfl⟩ : ∃ d, q = k + d := ⟨q - k, by omega⟩
        rw [Nat.add_sub_cancel_left, Int.pow_add, ← Int.mul_assoc]
        exact ((inv_pow hv k).mul Cg.rfl').trans (Cg.of_eq (Int.one_mul _))
      rw [hn]
      exact (evI_cg (fun _ => Cg.rfl') e _).trans (root_sum hw1 (by omega) (by omega))
    · have e : Cg p (v ^ k * w ^ q) (v ^ (k - q)) := by
        obtain ⟨d, rfl⟩ : ∃ d, k = q + d := ⟨k - q, by omega⟩
        rw [Nat.add_sub_cancel_left, Int.pow_add, Int.mul_assoc, Int.mul_comm (v ^ d), ← Int.mul_assoc]
        exact ((inv_pow hv q).mul Cg.rfl').trans (Cg.of_eq (Int.one_mul _))
      rw [hn]
      exact (evI_cg (fun _ => Cg.rfl') e _).trans (root_sum (half_inv hw1 hv) (by omega) (by omega))
  have hq1 : Cg p (evI (fun _ => 1) (v ^ q * w ^ q) n) (n : Int) := (evI_cg (fun _ => Cg.rfl') (inv_pow hv q) n).trans (Cg.of_eq (evI_ones n))
  have e1 : evI (fun i => s * evI m (v ^ i) n) (w ^ q) n = sumI (fun k => s * m k * evI (fun _ => 1) (v ^ k * w ^ q) n) n := by
    rw [evI_sum]
    have e2 : (fun i => s * evI m (v ^ i) n * (w ^ q) ^ i) = fun i => sumI (fun k => s * m k * (v ^ k * w ^ q) ^ i) n := by
      funext i
      rw [evI_sum, Int.mul_comm (s * _), ← Int.mul_assoc, sumI_mul]
      congr 1
      funext k
      rw [Int.mul_pow, ← Int.pow_mul (a := v), ← Int.pow_mul (a := v), Nat.mul_comm i k]
      grind
    rw [e2, sumI_swap]
    congr 1
    funext k
    rw [evI_sum, sumI_mul]
    congr 1
    funext i
    rw [Int.one_mul]
  rw [e1]
  refine sumI_one hq (fun k hk hne => ?_) ?_
  · exact (Cg.rfl'.mul (hx k hk hne)).trans (Cg.of_eq (Int.mul_zero _))
  · refine (Cg.rfl'.mul hq1).trans (Cg.trans (Cg.of_eq (y := (n : Int) * s * m q) (by grind)) ?_)
    exact (hs.mul Cg.rfl').trans (Cg.of_eq (Int.one_mul _))
end Go.Proofs.Ytefnagiffllhbaa

/- FftR -/
namespace Go.Proofs.Ytefnagiffllhbaa

theorem invP_cg {p n j : Nat} (l : List Nat) (h : okP p = true) (hn : LenOk p n) (hj : n = 2 ^ j) {i : Nat} (hi : i < n) :
    Cg p (invP p n j l i : Int) (((n ^ (p - 2) % p : Nat) : Int) * evI (fun k => ((l.getD k 0 : Nat) : Int)) (((rootP p n ^ (p - 2) % p : Nat) : Int) ^ i) n) := by
  have hp := okP_lt h
  have hv : j = 0 ∨ Cg p (((rootP p n ^ (p - 2) % p : Nat) : Int) ^ (2 ^ (j - 1))) (-1) := (root_half h hn hj).imp id fun h1 => half_inv h1 (inv_root h hn)
  have h1 := fftP_ev p (by omega) j (redP p l) (rootP p n ^ (p - 2) % p) hv i (by omega)
  rw [← hj] at h1
  refine (Cg.mod _).trans ?_
  rw [Int.natCast_mul, Int.mul_comm]
  exact Cg.rfl'.mul (h1.trans (evI_cg (fun k => Cg.mod _) Cg.rfl' n))
theorem evI_cgn {p : Nat} {a b : Nat → Int} (x : Int) : ∀ n, (∀ i, i < n → Cg p (a i) (b i)) → Cg p (evI a x n) (evI b x n)
  | 0, _ => Cg.rfl'
  | n + 1, h => (evI_cgn x n fun i hi => h i (by omega)).add ((h n (by omega)).mul Cg.rfl')
theorem invP_val {p n j : Nat} (l : List Nat) (h : okP p = true) (hn : LenOk p n) (hj : n = 2 ^ j) {q : Nat} (hq : q < n) :
    Cg p (evI (fun i => (invP p n j l i : Int)) ((rootP p n : Int) ^ q) n) ((l.getD q 0 : Nat) : Int) :=
  (evI_cgn _ n fun _ hi => invP_cg l h hn hj hi).trans (inv_eval (fun k => ((l.getD k 0 : Nat) : Int)) _ _ _ hj (root_half h hn hj) (inv_root h hn) (inv_two h hj) q hq)
end Go.Proofs.Ytefnagiffllhbaa

/- FftS -/
namespace Go.Proofs.Ytefnagiffllhbaa

theorem evI_same {a b : Nat → Int} (x : Int) : ∀ n, (∀ i, i < n → a i = b i) → evI a x n = evI b x n
  | 0, _ => rfl
  | n + 1, h => by rw [evI, evI, evI_same x n fun i hi => h i (by omega), h n (by omega)]
theorem evI_put (a : Nat → Nat) (k v : Nat) (x : Int) : ∀ n, k < n → evI (fun i => (putF a k v i : Int)) x n = evI (fun i => (a i : Int)) x n + ((v : Int) - a k) * x ^ k
  | 0, h => by omega
  | n + 1, h => by
    rw [evI, evI]
    by_cases e : k = n
    · subst e
      rw [evI_same (b := fun i => (a i : Int)) x k fun i hi => by simp only [putF]; rw [if_neg (by omega)]]
      simp only [putF, if_true]
      grind
    · rw [evI_put a k v x n (by omega)]
      simp only [putF]
      rw [if_neg (by omega)]
      omega
theorem vanP_ev {p b : Nat} (hp : 0 < p) (l : List Nat) (x : Int) (m : Nat) : ∀ i, i ≤ m → Cg p (evI (fun k => (vanP p b l i k : Int)) x (b + m)) ((x ^ b - 1) * evI (fun k => ((l.getD k 0 : Nat) : Int)) x i)
  | 0, _ => by
    refine Cg.of_eq ?_
    show evI (fun k => ((0 : Nat) : Int)) x (b + m) = (x ^ b - 1) * 0
    rw [evI_sum, Int.mul_zero, ← sumI_zero (b + m)]
    congr 1
    funext k
    simp
  | i + 1, hi => by
    have ih := vanP_ev hp (b := b) l x m i (by omega)
    rw [vanP]
    rw [evI_put _ _ _ _ _ (by omega), evI_put _ _ _ _ _ (by omega), evI]
    generalize putF (vanP p b l i) i ((vanP p b l i i + negP p (l.getD i 0)) % p) = v
    have h1 : Cg p (((vanP p b l i i + negP p (l.getD i 0)) % p : Nat) - (vanP p b l i i : Int)) (-((l.getD i 0 : Nat) : Int)) := by
      have := ((Cg.mod (p := p) (vanP p b l i i + negP p (l.getD i 0))).trans (Cg.trans (Cg.of_eq (Int.natCast_add _ _)) (Cg.rfl'.add (negP_cg p (l.getD i 0) hp)))).add (Cg.rfl' (x := -(vanP p b l i i : Int)))
      exact Cg.trans (Cg.of_eq (by omega)) (this.trans (Cg.of_eq (by omega)))
    have h2 : Cg p (((v (b + i) + l.getD i 0) % p : Nat) - (v (b + i) : Int)) ((l.getD i 0 : Nat) : Int) := by
      have := ((Cg.mod (p := p) (v (b + i) + l.getD i 0)).trans (Cg.of_eq (Int.natCast_add _ _))).add (Cg.rfl' (x := -(v (b + i) : Int)))
      exact Cg.trans (Cg.of_eq (by omega)) (this.trans (Cg.of_eq (by omega)))
    refine ((ih.add (h1.mul Cg.rfl')).add (h2.mul Cg.rfl')).trans (Cg.of_eq ?_)
    rw [Int.pow_add]
    grind
end Go.Proofs.Ytefnagiffllhbaa
