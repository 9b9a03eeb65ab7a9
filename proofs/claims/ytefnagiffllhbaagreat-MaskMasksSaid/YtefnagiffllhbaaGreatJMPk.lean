/-
  ref25.Masks.
-/
import Derived.Test.YtefnagiffllhbaaGreatJM26

/- PlK -/
namespace Go.Proofs.YtefnagiffllhbaaGreat
open Go.RowKit

/-- A row of the call's own stays while another row grows. -/
theorem own_other {w w' : World} {base : Nat} {e : TypeId} {size : Nat} {v : Value} {n : Nat} {xs : List Value} {u : Option Nat} (h : w.ownsRow base e size v n xs) (hg : w.grownBy w' u) (hne : ∀ q, v.ownBlock = some q → u = some q → False) : w'.ownsRow base e size v n xs := by
  have hlt := h.lt
  obtain ⟨h1, h2⟩ := h
  refine ⟨h1, ?_⟩
  rcases h2 with h2 | ⟨g, cap, cur, hv, hgb, hh, r⟩
  · exact Or.inl h2
  · exact Or.inr ⟨g, cap, cur, hv, hgb, by rw [hg.block g (Array.getElem?_eq_some_iff.1 hh).1 (fun e => hne g (by rw [hv]; rfl) e.symm)]; exact hh, r⟩
theorem apart_new {w : World} {base : Nat} {e : TypeId} {size : Nat} {x x' y : Value} {n : Nat} {ys : List Value} (hy : w.ownsRow base e size y n ys) (hap : ∀ q, x.ownBlock = some q → y.ownBlock = some q → False) (hb : x'.ownBlock = x.ownBlock ∨ x'.ownBlock = some w.heap.size) : ∀ q, x'.ownBlock = some q → y.ownBlock = some q → False := fun q h1 h2 => by
  rcases hb with e | e
  · exact hap q (e ▸ h1) h2
  · have := (hy.lt q h2).2
    rw [e] at h1
    have := Option.some.inj h1
    omega

set_option maxRecDepth 100000 in
set_option maxHeartbeats 2000000 in
theorem rMasks_any (L : LayR) (A B C : Option Addr) (n c m d k e : Nat) (msg vals : List Nat) (pos : List Int) (w : World) (hL : LayOk L) (hm : RWd w [.slice A n c] msg) (hn : n = L.block) (hpos : RInts w [.slice B m d] pos) (hv : RWd w [.slice C k e] vals) :
    Calls Tryz.prog 30 #[.agg (layCs L), .slice A n c, .slice B m d, .slice C k e] w fun e' w' => Below w.heap.size w w' ∧ ((masksOk L pos vals = false ∧ e' = .returned (.tuple #[.slice none 0 0, .int .i64 1])) ∨ (masksOk L pos vals = true ∧ ∃ v, e' = .returned (.tuple #[v, .int .i64 0]) ∧ RWd w' [v] (masksR L msg pos vals))) := by
  have HP := Lib.hid (fun w hl => rPositions_any L B m d pos w hl)
  have HN := Lib.hid (fun w hl => num25_any C k e L.queries L.p vals w hl)
  have HI := Lib.hid (fun w hl => rInterpolate_any L.p 1 L.block A c msg w hL.p hl)
  have HPt := Lib.hid (fun w => rPoints_any L w hL)
  have HE := Lib.hid (fun A n c x l w hl => rEval_any L.p A n c x l w hL.p hl)
  have HS := Lib.hid (fun a b w => rSub_any L.p a b w hL.p)
  have HW := Lib.hid (fun a e w he => rPow_any L.p a e w hL.p he)
  have HV := Lib.hid (fun a w => rInv_any L.p a w hL.p)
  have HM := Lib.hid (fun a b w => rMul_any L.p a b w hL.p)
  have HL := Lib.hid (fun A B m c n d xs ys w hx hy hlen hm => rInterp03_any L.p A B m c n d xs ys w hL.p hx hy hlen hm)
  have HD := Lib.hid (fun A n c m l w hl hn hm => rPad_any A n c m l w hl hn hm)
  have hb0 : Below w.heap.size w (w.alloc (.cells #[.int .u64 (L.p : Int), .int .i64 (L.block : Int), .int .i64 (L.queries : Int), .int .i64 (L.k : Int), .int .i64 (L.n : Int), .int .i64 (L.secret : Int), .int .i64 (L.rows : Int), .int .i64 (L.a : Int), .int .i64 (L.b : Int), .int .i64 (L.b : Int), .int .i64 (L.b : Int)] 34)) := (Below.refl _ _).alloc (Nat.le_refl _) _
  have kl := Blk.new w 34 #[.int .u64 (L.p : Int), .int .i64 (L.block : Int), .int .i64 (L.queries : Int), .int .i64 (L.k : Int), .int .i64 (L.n : Int), .int .i64 (L.secret : Int), .int .i64 (L.rows : Int), .int .i64 (L.a : Int), .int .i64 (L.b : Int), .int .i64 (L.b : Int), .int .i64 (L.b : Int)]
  have HOK := Lib.hid (show masksOk L pos vals = (posOk L.n L.queries pos && elOk vals L.queries L.p) from rfl)
  have HPL := Lib.hid (show posOk L.n L.queries pos = true → pos.length = L.queries from posOk_len)
  have hLp := Lib.hid hL
  obtain ⟨po, hpo⟩ : ∃ po, po = posOk L.n L.queries pos := ⟨_, rfl⟩
  obtain ⟨eo, heo⟩ : ∃ eo, eo = elOk vals L.queries L.p := ⟨_, rfl⟩
  have HP1 : Hid (∀ w : World, RInts w [.slice B m d] pos → Calls Tryz.prog 64 #[.agg (layCs L), .slice B m d] w fun e w' => e = .returned (.bool po) ∧ Below w.heap.size w w') := Lib.hid (fun w hl => by rw [hpo]; exact HP.out w hl)
  have HN1 : Hid (∀ w : World, RWd w [.slice C k e] vals → Calls Tryz.prog 65 #[.slice C k e, .int .i64 (L.queries : Int), .int .u64 (L.p : Int)] w fun e w' => e = .returned (.bool eo) ∧ Below w.heap.size w w') := Lib.hid (fun w hl => by rw [heo]; exact HN.out w hl)
  rw [HOK.out, ← hpo, ← heo]
  subst hn
  cases po with
  | false =>
    unfold layCs
    go_enter Tryz.func30, Tryz.ntmps30
    go_upto_region 1 with fail
    generalize w.alloc _ = w1 at kl hb0 ⊢
    replace hm := kept_RWd _ _ _ _ hb0 hm
    have hpos1 := kept_RInts _ _ _ _ hb0 hpos
    have cl := kl.cell
    have ll := kl.lt
    clear hm hpos hv HP HN HI HPt HE HS HW HV HM HL HD HOK HPL hLp HN1 hpo heo
    go_wp2_with fail
    refine (HP1.out _ hpos1).mono ?_
    rintro e' w2 ⟨rfl, hbx⟩
    replace kl := kl.below hbx kl.lt
    replace hb0 := below_chain hb0 hbx
    clear hbx
    go_wp2
    go_ret2
    exact ⟨hb0, .inl ⟨rfl, rfl⟩⟩
  | true =>
    have hml := HPL.out hpo.symm
    cases eo with
    | false =>
      unfold layCs
      go_enter Tryz.func30, Tryz.ntmps30
      go_upto_region 1 with fail
      generalize w.alloc _ = w1 at kl hb0 ⊢
      replace hv := kept_RWd _ _ _ _ hb0 hv
      have hpos1 := kept_RInts _ _ _ _ hb0 hpos
      have cl := kl.cell
      have ll := kl.lt
      clear hm hpos HP HN HI HPt HE HS HW HV HM HL HD HOK HPL hLp hpo heo hml
      go_wp2_with fail
      refine (HP1.out _ hpos1).mono ?_
      rintro e' w2 ⟨rfl, hbx⟩
      replace kl := kl.below hbx kl.lt
      replace hb0 := below_chain hb0 hbx
      replace hv := kept_RWd _ _ _ _ hbx hv
      clear hbx
      have cl := kl.cell
      go_wp2_with fail
      refine (HN1.out _ hv).mono ?_
      rintro e' w3 ⟨rfl, hbx⟩
      replace kl := kl.below hbx kl.lt
      replace hb0 := below_chain hb0 hbx
      clear hbx
      go_wp2
      go_ret2
      exact ⟨hb0, .inl ⟨rfl, rfl⟩⟩
    | true =>
      have HI1 : Hid (∀ w : World, RWd w [.slice A L.block c] msg → Calls Tryz.prog 40 #[.int .u64 (L.p : Int), .slice A L.block c, .int .u64 1] w fun e w' => ∃ v, e = .returned (.tuple #[v, .int .i64 0]) ∧ RWd w' [v] (maP L msg) ∧ Below w.heap.size w w') := Lib.hid (fun w hl => by
        have hp1 := (okP_lt hLp.out.p).1
        refine (HI.out w hl (layLen hLp.out).1 (by rw [Nat.mod_eq_of_lt (by omega)]; omega)).mono ?_
        rintro e w' ⟨v, he, hown, hb⟩
        obtain ⟨A2, cc2, rfl, -⟩ := own_form hown
        refine ⟨_, he, lw_own hown fun y hy => ?_, hb⟩
        obtain ⟨i, -, rfl⟩ := List.mem_map.1 hy
        have := intR_lt (p := L.p) (by omega) msg 1 i
        have := (okP_lt hLp.out.p).2
        omega)
      unfold layCs
      go_enter Tryz.func30, Tryz.ntmps30
      go_upto_region 1 with fail
      generalize w.alloc _ = w1 at kl hb0 ⊢
      replace hv := kept_RWd _ _ _ _ hb0 hv
      replace hm := kept_RWd _ _ _ _ hb0 hm
      have hpos1 := kept_RInts _ _ _ _ hb0 hpos
      have cl := kl.cell
      have ll := kl.lt
      have HPO := Lib.hid hpo
      have HEO := Lib.hid heo
      clear hpos HP HN HI HOK HPL hpo heo
      go_wp2_with fail
      refine (HP1.out _ hpos1).mono ?_
      rintro e' w2 ⟨rfl, hbx⟩
      replace hpos1 := kept_RInts _ _ _ _ hbx hpos1
      replace kl := kl.below hbx kl.lt
      replace hb0 := below_chain hb0 hbx
      replace hv := kept_RWd _ _ _ _ hbx hv
      replace hm := kept_RWd _ _ _ _ hbx hm
      clear hbx
      have cl := kl.cell
      go_wp2_with fail
      refine (HN1.out _ hv).mono ?_
      rintro e' w3 ⟨rfl, hbx⟩
      replace hpos1 := kept_RInts _ _ _ _ hbx hpos1
      replace kl := kl.below hbx kl.lt
      replace hb0 := below_chain hb0 hbx
      replace hv := kept_RWd _ _ _ _ hbx hv
      replace hm := kept_RWd _ _ _ _ hbx hm
      clear hbx
      have cl := kl.cell
      go_wp2_with fail
      refine (HI1.out _ hm).mono ?_
      rintro e' w4 ⟨va, rfl, ha, hbx⟩
      replace hpos1 := kept_RInts _ _ _ _ hbx hpos1
      replace kl := kl.below hbx kl.lt
      replace hb0 := below_chain hb0 hbx
      replace hv := kept_RWd _ _ _ _ hbx hv
      clear hbx hm
      have cl := kl.cell
      go_wp2_with fail
      refine (HPt.out _).mono ?_
      rintro e' w5 ⟨v1, v2, rfl, -, hpt, hbx⟩
      replace hpos1 := kept_RInts _ _ _ _ hbx hpos1
      replace kl := kl.below hbx kl.lt
      replace hb0 := below_chain hb0 hbx
      replace hv := kept_RWd _ _ _ _ hbx hv
      replace ha := kept_RWd _ _ _ _ hbx ha
      clear hbx
      obtain ⟨fx, hfx⟩ : ∃ fx, fx = mxV L pos := ⟨_, rfl⟩
      obtain ⟨fy, hfy⟩ : ∃ fy, fy = myV L msg pos vals := ⟨_, rfl⟩
      have HFXE := Lib.hid (show ∀ i, fx i = domR L.p (rowOf L.p).1 L.n (pos.getD i 0).toNat from fun i => by rw [hfx]; rfl)
      obtain ⟨M, hM⟩ : ∃ M, M = maP L msg := ⟨_, rfl⟩
      rw [← hM] at ha
      obtain ⟨A4, c4, rfl⟩ := rwd_form ha
      obtain ⟨D, hD⟩ : ∃ D, D = (List.range L.n).map (domR L.p (rowOf L.p).1 L.n) := ⟨_, rfl⟩
      rw [← hD] at hpt
      obtain ⟨A5, c5, rfl⟩ := rwd_form hpt
      have hd1 := hLp.out
      have hp2 := okP_lt hd1.p
      have HDL := Lib.hid (show D.length = L.n by rw [hD, List.length_map, List.length_range])
      have HDG := Lib.hid (show ∀ z, z < L.n → D.getD z 0 = domR L.p (rowOf L.p).1 L.n z from fun z hz => by rw [hD, range_get, if_pos hz])
      have HFV := Lib.hid (show ∀ i, (vals.getD i 0 + negP L.p (evalP L.p M (fx i))) % L.p * ((((fx i) ^ L.block % L.p + negP L.p 1) % L.p) ^ (L.p - 2) % L.p) % L.p = fy i from fun i => by rw [hfx, hfy, hM]; rfl)
      have HFXL := Lib.hid (show ∀ i, fx i < 18446744073709551616 from fun i => by rw [hfx]; have := domR_lt (p := L.p) (s := (rowOf L.p).1) (n := L.n) (by omega) (pos.getD i 0).toNat; exact Nat.lt_trans this hp2.2)
      have HFYL := Lib.hid (show ∀ i, fy i < 18446744073709551616 from fun i => by rw [hfy]; exact Nat.lt_trans (Nat.mod_lt _ (by omega)) hp2.2)
      have HPA := Lib.hid (fun i hi => posOk_at (N := L.n) (Q := L.queries) (l := pos) HPO.out.symm (i := i) hi)
      have HVQ := Lib.hid (show vals.length = pos.length from by have h := HEO.out.symm; unfold elOk at h; rw [Bool.and_eq_true] at h; rw [hml]; exact of_decide_eq_true h.1)
      have HMR := Lib.hid (show padP (lagL L.p ((List.range pos.length).map fx) ((List.range pos.length).map fy)) L.queries = masksR L msg pos vals from by rw [hfx, hfy]; rfl)
      have HBL := Lib.hid (show L.block < 18446744073709551616 by have := hd1.b2; omega)
      have e1 : IntKind.u64.wrap (L.block : Int) = (L.block : Int) := by rw [IntKind.wrap_u64]; have := hd1.b2; omega
      have hq2 := hd1.q2
      clear hD hM hfx hfy HPO HEO hd1 hp2 hLp HPt HN1 HP1 HI1
      obtain ⟨hvl, hvc, hvx, -, hvr⟩ := lw_at hv
      obtain ⟨-, hqc, hqx, -, hqr⟩ := lw_at hpt
      obtain ⟨A', n', c', he, hln, hnc, hcx, hrd⟩ := hpos1
      simp at he
      obtain ⟨rfl, rfl, rfl⟩ := he
      go_wp2_with fail
      go_loopw [14, 15, 16] (fun xv yv y wr => ∃ i : Nat, i ≤ pos.length ∧ y = .int .i64 (i : Int) ∧ wr.ownsRow w5.heap.size 22 1 xv i (U64 ((List.range i).map fx)) ∧ wr.ownsRow w5.heap.size 22 1 yv i (U64 ((List.range i).map fy)) ∧ Hid (∀ q, xv.ownBlock = some q → yv.ownBlock = some q → False) ∧ Below w5.heap.size w5 wr) (fun _ _ y _ => pos.length - (intOf y).toNat)
      case atStart => exact ⟨0, Nat.zero_le _, rfl, (own_empty w5 22 (Nat.le_refl _)).alloc _, by have := own_empty (base := w5.heap.size) (w5.alloc (.cells #[] 22)) 22 (by simp); simpa [U64] using this, Lib.hid (fun q h1 h2 => by simp [Value.ownBlock] at h1 h2; omega), ((Below.refl _ _).alloc (Nat.le_refl _) _).alloc (by simp) _⟩
      case round =>
        obtain ⟨i, hi, rfl, hox, hoy, hap, hb⟩ := hrel
        by_cases hlt : i < pos.length
        · have q1 : (i : Int) < (pos.length : Int) := by omega
          have q2 : (0 : Int) ≤ (i : Int) := by omega
          obtain ⟨b, q, rfl, hbl, hc, -, -⟩ := ri_get hrd hlt
          obtain ⟨hz0, hz1, -⟩ := HPA.out i hlt
          obtain ⟨z, hz⟩ : ∃ z : Nat, pos.getD i 0 = (z : Int) := ⟨_, (Int.toNat_of_nonneg hz0).symm⟩
          rw [hz] at hc hz1
          have hzn : z < L.n := by omega
          have hzd : z < D.length := by rw [HDL.out]; exact hzn
          obtain ⟨b2, q2', rfl, hbl2, hc2⟩ := lw_get hqr hzd
          obtain ⟨b3, q3', rfl, hbl3, hc3⟩ := lw_get (l := vals) (by rw [← hvl]; exact hvr) (j := i) (by rw [HVQ.out]; exact hlt)
          have hxe : D.getD z 0 = fx i := by rw [HDG.out z hzn, HFXE.out i, hz]; rfl
          have HYE := Lib.hid (HFV.out i)
          have HXSn := Lib.hid (range_snoc fx i)
          have HYSn := Lib.hid (range_snoc fy i)
          obtain ⟨x, hx⟩ : ∃ x, x = fx i := ⟨_, rfl⟩
          obtain ⟨y, hy⟩ : ∃ y, y = fy i := ⟨_, rfl⟩
          rw [hxe, ← hx] at hc2
          rw [← hx] at HXSn
          rw [← hy] at HYSn
          rw [← hx, ← hy] at HYE
          obtain ⟨v, hv'⟩ : ∃ v, v = vals.getD i 0 := ⟨_, rfl⟩
          rw [← hv'] at hc3 HYE
          obtain ⟨t, ht⟩ : ∃ t, t = x ^ L.block % L.p := ⟨_, rfl⟩
          obtain ⟨zz, hzz⟩ : ∃ zz, zz = (t + negP L.p 1) % L.p := ⟨_, rfl⟩
          obtain ⟨ev, hev⟩ : ∃ ev, ev = evalP L.p M x := ⟨_, rfl⟩
          obtain ⟨s, hs⟩ : ∃ s, s = (v + negP L.p ev) % L.p := ⟨_, rfl⟩
          obtain ⟨zi, hzi⟩ : ∃ zi, zi = zz ^ (L.p - 2) % L.p := ⟨_, rfl⟩
          rw [← ht, ← hzz, ← hev, ← hs, ← hzi] at HYE
          have HW1 := Lib.hid (fun w => by have := HW.out x L.block w HBL.out; rw [← ht] at this; exact this)
          have HS1 := Lib.hid (fun w => by have := HS.out t 1 w; rw [← hzz] at this; exact this)
          have HE1 := Lib.hid (fun A n c w hl => by have := HE.out A n c x M w hl; rw [← hev] at this; exact this)
          have HS2 := Lib.hid (fun w => by have := HS.out v ev w; rw [← hs] at this; exact this)
          have HV1 := Lib.hid (fun w => by have := HV.out zz w; rw [← hzi] at this; exact this)
          have HM1 := Lib.hid (fun w => by have := HM.out s zi w; rw [HYE.out] at this; exact this)
          have c1 := (hb.cell (p := ⟨b, q + i, none⟩) hbl).trans hc
          have c2 := (hb.cell (p := ⟨b2, q2' + z, none⟩) hbl2).trans hc2
          have u1 : (0 : Int) ≤ (z : Int) := by omega
          have u2 : (z : Int) < (D.length : Int) := by omega
          have kl1 := kl.below hb kl.lt
          have cl := kl1.cell
          have ll := kl1.lt
          clear hx hy hv' ht hzz hev hs hzi HYE hxe hz0 hz1 hzn hzd hz
          go_upto_region 11 with fail
          refine wpO_begin (Later) [8, 9] [0, 1, 2, 3, 4, 5, 6, 7, 8, 9, 10] (by kernel_rfl) (by kernel_rfl) ?_
          refine wpO_startK (later_moves) ?_
          intro Wc HWc hacc
          have hbW : Below wr.heap.size wr Wc := by rw [HWc.out]; exact (Below.refl _ _).drew
          replace hox := own_below hox hbW (Nat.le_refl _)
          replace hoy := own_below hoy hbW (Nat.le_refl _)
          replace hb := below_chain hb hbW
          repeat (first | (refine wpO_skip (later_moves) rfl rfl (fun _ _ _ h => h) ?_ ; simp only [Act.put, List.setIfInBounds_toArray, List.set_cons_zero, List.set_cons_succ]) | (refine wpO_light (v := ?_) (later_moves) rfl rfl (fun _ _ _ h => h) ?_ ?_ ; rotate_left ; (· (intro w' hR ; (first | have hcells := later_cellsD ((later_moves).trans _ _ _ hacc hR) | skip) ; go_simp ; try with_reducible rfl)) ; simp only [Act.put, List.setIfInBounds_toArray, List.set_cons_zero, List.set_cons_succ]))
          refine wpO_call (later_moves) rfl rfl rfl (fun _ => by go_simp <;> rfl) ((HW1.out _).mono ?_)
          rintro e w7 ⟨rfl, hbx⟩
          refine ⟨_, rfl, hbx, ?_⟩
          replace hacc := (later_moves).trans _ _ _ hacc (hbx)
          simp only [Act.put, List.setIfInBounds_toArray, List.set_cons_zero, List.set_cons_succ]
          replace hox := own_below hox hbx (Nat.le_refl _)
          replace hoy := own_below hoy hbx (Nat.le_refl _)
          replace hb := below_chain hb hbx
          repeat (first | (refine wpO_skip (later_moves) rfl rfl (fun _ _ _ h => h) ?_ ; simp only [Act.put, List.setIfInBounds_toArray, List.set_cons_zero, List.set_cons_succ]) | (refine wpO_light (v := ?_) (later_moves) rfl rfl (fun _ _ _ h => h) ?_ ?_ ; rotate_left ; (· (intro w' hR ; (first | have hcells := later_cellsD ((later_moves).trans _ _ _ hacc hR) | skip) ; go_simp ; try with_reducible rfl)) ; simp only [Act.put, List.setIfInBounds_toArray, List.set_cons_zero, List.set_cons_succ]))
          refine wpO_call (later_moves) rfl rfl rfl (fun _ => by go_simp <;> rfl) ((HS1.out _).mono ?_)
          rintro e w8 ⟨rfl, hby⟩
          refine ⟨_, rfl, hby, ?_⟩
          replace hacc := (later_moves).trans _ _ _ hacc (hby)
          simp only [Act.put, List.setIfInBounds_toArray, List.set_cons_zero, List.set_cons_succ]
          replace hox := own_below hox hby (Nat.le_refl _)
          replace hoy := own_below hoy hby (Nat.le_refl _)
          replace hb := below_chain hb hby
          repeat (first | (refine wpO_skip (later_moves) rfl rfl (fun _ _ _ h => h) ?_ ; simp only [Act.put, List.setIfInBounds_toArray, List.set_cons_zero, List.set_cons_succ]) | (refine wpO_light (v := ?_) (later_moves) rfl rfl (fun _ _ _ h => h) ?_ ?_ ; rotate_left ; (· (intro w' hR ; (first | have hcells := later_cellsD ((later_moves).trans _ _ _ hacc hR) | skip) ; go_simp ; try with_reducible rfl)) ; simp only [Act.put, List.setIfInBounds_toArray, List.set_cons_zero, List.set_cons_succ]))
          refine wpO_done ?_
          clear hbW hbx hby hacc HWc c1 c2 kl1 cl ll
          go_wp2_with (at_builtin; refine wpl_append rfl _ _ rfl el_w rfl (hox.alloc _) rfl (rd_one _ _ _) (one_U64 [x]) (by omega) (by simp; have := hb.size; omega) ?_)
          intro xv' wn hox' hgrow hblk
          have hal := (Below.refl w8.heap.size w8).alloc (Nat.le_refl _) (.cells #[.int .u64 (x : Int)] 22)
          have hoyA := own_below hoy hal (Nat.le_refl _)
          have hB := lw_grow (hox.alloc _) hgrow (by simp; have := hb.size; omega)
          replace hoy := own_other hoyA hgrow (fun q h1 h2 => hap.out q h2 h1)
          replace hap := Lib.hid (apart_new hoyA hap.out (by rcases hblk with h | h; exact .inl h; exact .inr (by rw [h]; simp)))
          replace hb := (below_on hb hal hb.size).trans hB
          replace hox : wn.ownsRow w5.heap.size 22 1 xv' (i + 1) (U64 ((List.range (i + 1)).map fx)) := lw_app (b := [x]) hox' HXSn.out
          clear hox' hgrow hblk hal hB hoyA
          have kl1 := kl.below hb kl.lt
          have cl := kl1.cell
          have ll := kl1.lt
          have c3 := (hb.cell (p := ⟨b3, q3' + i, none⟩) hbl3).trans hc3
          have l3 := Nat.lt_of_lt_of_le hbl3 hb.size
          have u3 : (i : Int) < (vals.length : Int) := by rw [HVQ.out]; exact q1
          have ll5 := kl.lt
          go_upto_region 13 with fail
          refine wpO_begin (From w5.heap.size) [13, 14, 18, 19, 20, 21] [0, 1, 2, 3, 4, 5, 6, 7, 8, 9, 10, 11, 12, 15, 16, 17, 13, 14, 18, 19, 20, 21, 22] (by kernel_rfl) (by kernel_rfl) ?_
          refine wpO_startK (from_moves w5.heap.size) ?_
          intro Wc HWc hacc
          have hbW : Below wn.heap.size wn Wc := by rw [HWc.out]; exact (Below.refl _ _).drew
          replace hox := own_below hox hbW (Nat.le_refl _)
          replace hoy := own_below hoy hbW (Nat.le_refl _)
          replace hb := below_chain hb hbW
          have ha1 := kept_RWd _ _ _ _ hb ha
          repeat (first | (refine wpO_skip (from_moves w5.heap.size) rfl rfl (fun _ _ _ h => h) ?_ ; simp only [Act.put, List.setIfInBounds_toArray, List.set_cons_zero, List.set_cons_succ]) | (refine wpO_light (v := ?_) (from_moves w5.heap.size) rfl rfl (fun _ _ _ h => h) ?_ ?_ ; rotate_left ; (· (intro w' hR ; (first | have hcells := from_cellsD ((from_moves w5.heap.size).trans _ _ _ hacc hR) | skip) ; go_simp ; try with_reducible rfl)) ; simp only [Act.put, List.setIfInBounds_toArray, List.set_cons_zero, List.set_cons_succ]))
          refine wpO_call (from_moves w5.heap.size) rfl rfl rfl (fun _ => by go_simp <;> rfl) ((HE1.out _ _ _ _ ha1).mono ?_)
          rintro e w9 ⟨rfl, hbx⟩
          refine ⟨_, rfl, hbx.mono hb.size, ?_⟩
          replace hacc := (from_moves w5.heap.size).trans _ _ _ hacc (hbx.mono hb.size)
          simp only [Act.put, List.setIfInBounds_toArray, List.set_cons_zero, List.set_cons_succ]
          replace hox := own_below hox hbx (Nat.le_refl _)
          replace hoy := own_below hoy hbx (Nat.le_refl _)
          replace hb := below_chain hb hbx
          repeat (first | (refine wpO_skip (from_moves w5.heap.size) rfl rfl (fun _ _ _ h => h) ?_ ; simp only [Act.put, List.setIfInBounds_toArray, List.set_cons_zero, List.set_cons_succ]) | (refine wpO_light (v := ?_) (from_moves w5.heap.size) rfl rfl (fun _ _ _ h => h) ?_ ?_ ; rotate_left ; (· (intro w' hR ; (first | have hcells := from_cellsD ((from_moves w5.heap.size).trans _ _ _ hacc hR) | skip) ; go_simp ; try with_reducible rfl)) ; simp only [Act.put, List.setIfInBounds_toArray, List.set_cons_zero, List.set_cons_succ]))
          refine wpO_call (from_moves w5.heap.size) rfl rfl rfl (fun _ => by go_simp <;> rfl) ((HS2.out _).mono ?_)
          rintro e w10 ⟨rfl, hby⟩
          refine ⟨_, rfl, hby.mono hb.size, ?_⟩
          replace hacc := (from_moves w5.heap.size).trans _ _ _ hacc (hby.mono hb.size)
          simp only [Act.put, List.setIfInBounds_toArray, List.set_cons_zero, List.set_cons_succ]
          replace hox := own_below hox hby (Nat.le_refl _)
          replace hoy := own_below hoy hby (Nat.le_refl _)
          replace hb := below_chain hb hby
          repeat (first | (refine wpO_skip (from_moves w5.heap.size) rfl rfl (fun _ _ _ h => h) ?_ ; simp only [Act.put, List.setIfInBounds_toArray, List.set_cons_zero, List.set_cons_succ]) | (refine wpO_light (v := ?_) (from_moves w5.heap.size) rfl rfl (fun _ _ _ h => h) ?_ ?_ ; rotate_left ; (· (intro w' hR ; (first | have hcells := from_cellsD ((from_moves w5.heap.size).trans _ _ _ hacc hR) | skip) ; go_simp ; try with_reducible rfl)) ; simp only [Act.put, List.setIfInBounds_toArray, List.set_cons_zero, List.set_cons_succ]))
          refine wpO_call (from_moves w5.heap.size) rfl rfl rfl (fun _ => by go_simp <;> rfl) ((HV1.out _).mono ?_)
          rintro e w11 ⟨rfl, hbz⟩
          refine ⟨_, rfl, hbz.mono hb.size, ?_⟩
          replace hacc := (from_moves w5.heap.size).trans _ _ _ hacc (hbz.mono hb.size)
          simp only [Act.put, List.setIfInBounds_toArray, List.set_cons_zero, List.set_cons_succ]
          replace hox := own_below hox hbz (Nat.le_refl _)
          replace hoy := own_below hoy hbz (Nat.le_refl _)
          replace hb := below_chain hb hbz
          repeat (first | (refine wpO_skip (from_moves w5.heap.size) rfl rfl (fun _ _ _ h => h) ?_ ; simp only [Act.put, List.setIfInBounds_toArray, List.set_cons_zero, List.set_cons_succ]) | (refine wpO_light (v := ?_) (from_moves w5.heap.size) rfl rfl (fun _ _ _ h => h) ?_ ?_ ; rotate_left ; (· (intro w' hR ; (first | have hcells := from_cellsD ((from_moves w5.heap.size).trans _ _ _ hacc hR) | skip) ; go_simp ; try with_reducible rfl)) ; simp only [Act.put, List.setIfInBounds_toArray, List.set_cons_zero, List.set_cons_succ]))
          refine wpO_call (from_moves w5.heap.size) rfl rfl rfl (fun _ => by go_simp <;> rfl) ((HM1.out _).mono ?_)
          rintro e w12 ⟨rfl, hbm⟩
          refine ⟨_, rfl, hbm.mono hb.size, ?_⟩
          replace hacc := (from_moves w5.heap.size).trans _ _ _ hacc (hbm.mono hb.size)
          simp only [Act.put, List.setIfInBounds_toArray, List.set_cons_zero, List.set_cons_succ]
          replace hox := own_below hox hbm (Nat.le_refl _)
          replace hoy := own_below hoy hbm (Nat.le_refl _)
          replace hb := below_chain hb hbm
          repeat (first | (refine wpO_skip (from_moves w5.heap.size) rfl rfl (fun _ _ _ h => h) ?_ ; simp only [Act.put, List.setIfInBounds_toArray, List.set_cons_zero, List.set_cons_succ]) | (refine wpO_light (v := ?_) (from_moves w5.heap.size) rfl rfl (fun _ _ _ h => h) ?_ ?_ ; rotate_left ; (· (intro w' hR ; (first | have hcells := from_cellsD ((from_moves w5.heap.size).trans _ _ _ hacc hR) | skip) ; go_simp ; try with_reducible rfl)) ; simp only [Act.put, List.setIfInBounds_toArray, List.set_cons_zero, List.set_cons_succ]))
          refine wpO_heavy (from_moves w5.heap.size) rfl rfl rfl ?_
          go_simp
          have hal := (Below.refl w12.heap.size w12).alloc (Nat.le_refl _) (.cells #[.int .u64 (y : Int)] 22)
          have hrd1 := rd_one w12 (.int .u64 (y : Int)) 22
          refine ⟨hal.mono hb.size, ?_⟩
          replace hox := own_below hox hal (Nat.le_refl _)
          replace hoy := own_below hoy hal (Nat.le_refl _)
          replace hb := below_chain hb hal
          try simp only [Act.put, List.setIfInBounds_toArray, List.set_cons_zero, List.set_cons_succ]
          generalize w12.alloc _ = w13 at hox hoy hrd1 hb ⊢
          generalize w12.heap.size = g6 at hrd1 ⊢
          clear hal hacc hbW hbx hby hbz hbm HWc c3 l3 cl ll kl1 ha1
          have hacc := (from_moves w5.heap.size).refl w13
          repeat (first | (refine wpO_skip (from_moves w5.heap.size) rfl rfl (fun _ _ _ h => h) ?_ ; simp only [Act.put, List.setIfInBounds_toArray, List.set_cons_zero, List.set_cons_succ]) | (refine wpO_light (v := ?_) (from_moves w5.heap.size) rfl rfl (fun _ _ _ h => h) ?_ ?_ ; rotate_left ; (· (intro w' hR ; (first | have hcells := from_cellsD ((from_moves w5.heap.size).trans _ _ _ hacc hR) | skip) ; go_simp ; try with_reducible rfl)) ; simp only [Act.put, List.setIfInBounds_toArray, List.set_cons_zero, List.set_cons_succ]))
          refine wpO_heavy (from_moves w5.heap.size) rfl rfl rfl ?_
          refine wp_append_rd _ _ rfl el_w rfl hoy rfl hrd1 (one_U64 [y]) (by omega) hb.size ?_
          intro yv' wz hoy' hgrow hblk
          refine ⟨lw_grow hoy hgrow hb.size, ?_⟩
          have hox1 := own_other hox hgrow (fun q h1 h2 => hap.out q h1 h2)
          have hap1 := apart_new hox (fun q h1 h2 => hap.out q h2 h1) hblk
          replace hb := hb.trans (lw_grow hoy hgrow hb.size)
          replace hoy' : wz.ownsRow w5.heap.size 22 1 yv' (i + 1) (U64 ((List.range (i + 1)).map fy)) := lw_app (b := [y]) hoy' HYSn.out
          clear hgrow hblk hrd1 hacc hox hoy
          have hacc := (from_moves w5.heap.size).refl wz
          try simp only [Act.put, List.setIfInBounds_toArray, List.set_cons_zero, List.set_cons_succ]
          repeat (first | (refine wpO_skip (from_moves w5.heap.size) rfl rfl (fun _ _ _ h => h) ?_ ; simp only [Act.put, List.setIfInBounds_toArray, List.set_cons_zero, List.set_cons_succ]) | (refine wpO_light (v := ?_) (from_moves w5.heap.size) rfl rfl (fun _ _ _ h => h) ?_ ?_ ; rotate_left ; (· (intro w' hR ; (first | have hcells := from_cellsD ((from_moves w5.heap.size).trans _ _ _ hacc hR) | skip) ; go_simp ; try with_reducible rfl)) ; simp only [Act.put, List.setIfInBounds_toArray, List.set_cons_zero, List.set_cons_succ]))
          refine wpO_done ?_
          clear hacc
          go_wp2
          go_roundw
          case rel => exact ⟨i + 1, by omega, by go_num, hox1, hoy', Lib.hid (fun q h1 h2 => hap1 q h2 h1), hb⟩
          case measure => simp [intOf]; omega
        · obtain rfl : i = pos.length := by omega
          have q1 : ¬ ((pos.length : Int) < (pos.length : Int)) := by omega
          have kl1 := kl.below hb kl.lt
          have cl := kl1.cell
          have ll := kl1.lt
          obtain ⟨Ax, cx, rfl, -⟩ := own_form hox
          obtain ⟨Ay, cy, rfl, -⟩ := own_form hoy
          have hx := lw_own hox (fun y hy => by obtain ⟨i, -, rfl⟩ := List.mem_map.1 hy; exact HFXL.out i)
          have hy := lw_own hoy (fun y hy => by obtain ⟨i, -, rfl⟩ := List.mem_map.1 hy; exact HFYL.out i)
          have hlag := lagR_len L.p ((List.range pos.length).map fx) ((List.range pos.length).map fy) _ (Nat.le_refl _)
          rw [List.length_map, List.length_range] at hlag
          have HLG := Lib.hid (show (lagL L.p ((List.range pos.length).map fx) ((List.range pos.length).map fy)).length ≤ 1000 by unfold lagL; rw [List.length_map, List.length_range]; omega)
          replace hb := below_chain hb0 hb
          clear hox hoy hlag hap
          generalize (List.range pos.length).map fx = XS at *
          generalize (List.range pos.length).map fy = YS at *
          go_upto_region 14 with fail
          refine wpO_begin (Later) [4, 7] [0, 1, 2, 3, 5, 6, 4, 7, 8, 9] (by kernel_rfl) (by kernel_rfl) ?_
          refine wpO_startK (later_moves) ?_
          intro Wc HWc hacc
          have hbW : Below wr.heap.size wr Wc := by rw [HWc.out]; exact (Below.refl _ _).drew
          replace hx := kept_RWd _ _ _ _ hbW hx
          replace hy := kept_RWd _ _ _ _ hbW hy
          replace hb := below_chain hb hbW
          repeat (first | (refine wpO_skip (later_moves) rfl rfl (fun _ _ _ h => h) ?_ ; simp only [Act.put, List.setIfInBounds_toArray, List.set_cons_zero, List.set_cons_succ]) | (refine wpO_light (v := ?_) (later_moves) rfl rfl (fun _ _ _ h => h) ?_ ?_ ; rotate_left ; (· (intro w' hR ; (first | have hcells := later_cellsD ((later_moves).trans _ _ _ hacc hR) | skip) ; go_simp ; try with_reducible rfl)) ; simp only [Act.put, List.setIfInBounds_toArray, List.set_cons_zero, List.set_cons_succ]))
          refine wpO_call (later_moves) rfl rfl rfl (fun _ => by go_simp <;> rfl) ((HL.out _ _ _ _ _ _ _ _ _ hx hy rfl (by omega)).mono ?_)
          rintro e w7 ⟨v7, rfl, h7, hbx⟩
          refine ⟨_, rfl, hbx, ?_⟩
          replace hacc := (later_moves).trans _ _ _ hacc (hbx)
          simp only [Act.put, List.setIfInBounds_toArray, List.set_cons_zero, List.set_cons_succ]
          replace hb := below_chain hb hbx
          obtain ⟨A7, c7, rfl⟩ := rwd_form h7
          repeat (first | (refine wpO_skip (later_moves) rfl rfl (fun _ _ _ h => h) ?_ ; simp only [Act.put, List.setIfInBounds_toArray, List.set_cons_zero, List.set_cons_succ]) | (refine wpO_light (v := ?_) (later_moves) rfl rfl (fun _ _ _ h => h) ?_ ?_ ; rotate_left ; (· (intro w' hR ; (first | have hcells := later_cellsD ((later_moves).trans _ _ _ hacc hR) | skip) ; go_simp ; try with_reducible rfl)) ; simp only [Act.put, List.setIfInBounds_toArray, List.set_cons_zero, List.set_cons_succ]))
          refine wpO_call (later_moves) rfl rfl rfl (fun _ => by go_simp <;> rfl) ((HD.out _ _ _ _ _ _ h7 (by have := HLG.out; omega) (by omega)).mono ?_)
          rintro e w8 ⟨v8, rfl, h8, hby⟩
          refine ⟨_, rfl, hby, ?_⟩
          replace hacc := (later_moves).trans _ _ _ hacc (hby)
          simp only [Act.put, List.setIfInBounds_toArray, List.set_cons_zero, List.set_cons_succ]
          replace hb := below_chain hb hby
          rw [HMR.out] at h8
          repeat (first | (refine wpO_skip (later_moves) rfl rfl (fun _ _ _ h => h) ?_ ; simp only [Act.put, List.setIfInBounds_toArray, List.set_cons_zero, List.set_cons_succ]) | (refine wpO_light (v := ?_) (later_moves) rfl rfl (fun _ _ _ h => h) ?_ ?_ ; rotate_left ; (· (intro w' hR ; (first | have hcells := later_cellsD ((later_moves).trans _ _ _ hacc hR) | skip) ; go_simp ; try with_reducible rfl)) ; simp only [Act.put, List.setIfInBounds_toArray, List.set_cons_zero, List.set_cons_succ]))
          refine wpO_done ?_
          clear hacc hbW hbx hby HWc
          go_wp2
          go_ret2
          exact ⟨hb, _, rfl, h8⟩
end Go.Proofs.YtefnagiffllhbaaGreat
