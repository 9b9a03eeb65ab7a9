/-
  MaskFromSeed, for every input: the law returns true and leaves its arguments as they were. No condition.
-/
import Derived.Test.YtefnagiffllhbaaJD
import Derived.Test.YtefnagiffllhbaaJC
import Derived.Test.YtefnagiffllhbaaJA
import Derived.Test.YtefnagiffllhbaaRows
import Derived.Test.YtefnagiffllhbaaFits

/-! MaskFSW -/
namespace Go.Proofs.Ytefnagiffllhbaa
open Go.RowKit

theorem wf_nat {n : Int} (h : (Lit.int .u64 n).wf = true) : ∃ m : Nat, n = (m : Int) ∧ m < 18446744073709551616 := by
  have hx : 0 ≤ n ∧ n ≤ 18446744073709551615 := by simpa [Lit.wf, IntKind.min, IntKind.max, IntKind.signed, IntKind.bits] using h
  obtain ⟨m, rfl⟩ := Int.eq_ofNat_of_zero_le hx.1
  exact ⟨m, rfl, by omega⟩

set_option maxRecDepth 100000 in
set_option maxHeartbeats 2000000 in
theorem maskFromSeed_walk (W : World) (cs0 : Array Value) (f0 : Fits Try.prog W 30 (Value.agg cs0).cells.toList) (n1 : Int) (f1 : (Lit.int .u64 n1).wf = true) :
    Calls Try.prog 3 #[.agg cs0, .int .u64 n1] W fun e W' => e = .returned (.bool true) ∧ Below W.heap.size W W' := by
  obtain ⟨p, pub, vars, A, B, n, c, m, d, rows, ws, bl, bw, qs, rfl, hin⟩ := open_case24 f0
  obtain ⟨s, rfl, hslt⟩ := wf_nat f1
  clear f0 f1
  have HR := Lib.hid (fun w' (hb : Below W.heap.size W w') => right25_any p pub vars A B n c m d rows ws bl bw qs w' (kept_RSl kept_RRow _ _ _ _ hb hin.rows) (kept_RWd _ _ _ _ hb hin.ws) hin.p)
  have HM := Lib.hid (fun L w hL => mFromSeed_any L s w hL hslt)
  have HF := Lib.hid (fun L w hL => rFromSeed_any L s w hL hslt)
  have HV := Lib.hid (fun L A0 A1 A2 A3 A4 n0 c0 n1 c1 n2 c2 n3 c3 n4 c4 rows l1 l2 l3 l4 w hL h0 h1 h2 h3 h4 => mValid_any L A0 A1 A2 A3 A4 n0 c0 n1 c1 n2 c2 n3 c3 n4 c4 rows l1 l2 l3 l4 w hL h0 h1 h2 h3 h4)
  clear hin
  unfold caseCs at *
  have hb0 : Below W.heap.size W (W.alloc (.cells #[.int .u64 (p : Int), .int .i64 pub, .int .i64 vars, .slice A n c, .int .i64 bl, .int .i64 bw, .int .i64 qs, .slice B m d] 30)) := (Below.refl _ W).alloc (Nat.le_refl _) _
  go_enter Try.func3, Try.ntmps3
  go_wp2_with fail
  generalize W.alloc _ = w0 at hb0 ⊢
  refine (HR.out _ hb0).mono ?_
  rintro e w1 ⟨⟨hpost, -⟩, hb1⟩
  obtain ⟨y0, y1, y2, y3, y4, y5, y6, y7, y8, y9, y10, b, rfl, hL⟩ := hpost
  replace hb0 := below_chain hb0 hb1
  clear hb1 HR
  go_upto_region 2 with fail
  have kl := Blk.new w1 33 #[.int .u64 y0, .int .i64 y1, .int .i64 y2, .int .i64 y3, .int .i64 y4, .int .i64 y5, .int .i64 y6, .int .i64 y7, .int .i64 y8, .int .i64 y9, .int .i64 y10]
  have hal := (Below.refl w1.heap.size w1).alloc (Nat.le_refl _) (.cells #[.int .u64 y0, .int .i64 y1, .int .i64 y2, .int .i64 y3, .int .i64 y4, .int .i64 y5, .int .i64 y6, .int .i64 y7, .int .i64 y8, .int .i64 y9, .int .i64 y10] 33)
  replace hb0 := below_chain hb0 hal
  clear hal
  generalize w1.alloc _ = w2 at kl hb0 ⊢
  generalize w1.heap.size = gl at kl ⊢
  have HL := Lib.hid hL
  clear hL
  go_wp2_with fail
  refine (awake_any _).mono ?_
  rintro e w3 ⟨rfl, hb3⟩
  replace kl := kl.below hb3 kl.lt
  replace hb0 := below_chain hb0 hb3
  clear hb3
  cases b
  · go_wp2_with fail
    refine (awake_any _).mono ?_
    rintro e w4 ⟨rfl, hb4⟩
    go_wp2
    go_ret
    exact ⟨rfl, below_chain hb0 hb4⟩
  · obtain ⟨L, hL, -, hcs⟩ := HL.out rfl
    clear HL
    rw [hcs] at kl
    clear hcs
    have HO := Lib.hid (fun w => own_any L w)
    have HM' := Lib.hid (fun w => HM.out L w hL)
    have HF' := Lib.hid (fun w => HF.out L w hL)
    have hco := coins_seed L s (by have := okP_lt hL.p; omega)
    unfold layCs at *
    have cl := kl.cell
    go_wp2_with fail
    refine (HO.out _).mono ?_
    rintro e w4 ⟨rfl, hb4⟩
    replace kl := kl.below hb4 kl.lt
    replace hb0 := below_chain hb0 hb4
    clear hb4 cl
    go_wp2_with fail
    refine (HM'.out _).mono ?_
    rintro e w5 ⟨v0, v1, v2, v3, v4, rfl, r0, r1, r2, r3, r4, hb5⟩
    replace kl := kl.below hb5 kl.lt
    replace hb0 := below_chain hb0 hb5
    clear hb5
    obtain ⟨A0, n0, c0, e0, -⟩ := id r0
    obtain ⟨A1, n1, c1, e1, -⟩ := id r1
    obtain ⟨A2, n2, c2, e2, -⟩ := id r2
    obtain ⟨A3, n3, c3, e3, -⟩ := id r3
    obtain ⟨A4, n4, c4, e4, -⟩ := id r4
    simp only [List.cons.injEq, and_true] at e0 e1 e2 e3 e4
    subst e0 e1 e2 e3 e4
    go_upto_region 5 with fail
    have kc := Blk.new w5 39 #[.slice A0 n0 c0, .slice A1 n1 c1, .slice A2 n2 c2, .slice A3 n3 c3, .slice A4 n4 c4]
    have hal := (Below.refl w5.heap.size w5).alloc (Nat.le_refl _) (.cells #[.slice A0 n0 c0, .slice A1 n1 c1, .slice A2 n2 c2, .slice A3 n3 c3, .slice A4 n4 c4] 39)
    replace kl := kl.below hal kl.lt
    replace hb0 := below_chain hb0 hal
    replace r0 := kept_RRows _ _ _ _ hal r0
    replace r1 := kept_RWd _ _ _ _ hal r1
    replace r2 := kept_RWd _ _ _ _ hal r2
    replace r3 := kept_RWd _ _ _ _ hal r3
    replace r4 := kept_RWd _ _ _ _ hal r4
    clear hal
    generalize w5.alloc _ = w6 at kl kc hb0 r0 r1 r2 r3 r4 ⊢
    generalize w5.heap.size = gc at kc ⊢
    have cl := kl.cell
    have ll := kl.lt
    have cc := kc.cell
    have lc := kc.lt
    refine wpO_begin (Later) [3, 4, 7, 9] [0, 1, 2, 3, 4, 5, 6, 8, 7, 9, 10, 11] (by kernel_rfl) (by kernel_rfl) ?_
    refine wpO_startK (later_moves) ?_
    intro Wc HWc hacc
    have hbW : Below w6.heap.size w6 Wc := by rw [HWc.out]; exact (Below.refl _ _).drew
    repeat (first | (refine wpO_skip (later_moves) rfl rfl (fun _ _ _ h => h) ?_ ; simp only [Act.put, List.setIfInBounds_toArray, List.set_cons_zero, List.set_cons_succ]) | (refine wpO_light (v := ?_) (later_moves) rfl rfl (fun _ _ _ h => h) ?_ ?_ ; rotate_left ; (· (intro w' hR ; (first | have hcells := later_cellsD ((later_moves).trans _ _ _ hacc hR) | skip) ; go_simp ; try with_reducible rfl)) ; simp only [Act.put, List.setIfInBounds_toArray, List.set_cons_zero, List.set_cons_succ]))
    refine wpO_call (later_moves) rfl rfl rfl (fun _ => by go_simp <;> rfl) ((HF'.out _).mono ?_)
    rintro e w7 ⟨u0, u1, u2, u3, u4, rfl, t0, t1, t2, t3, t4, hb7⟩
    refine ⟨_, rfl, hb7, ?_⟩
    replace hacc := (later_moves).trans _ _ _ hacc (hb7)
    simp only [Act.put, List.setIfInBounds_toArray, List.set_cons_zero, List.set_cons_succ]
    obtain ⟨B0, m0, d0, e0, -⟩ := id t0
    obtain ⟨B1, m1, d1, e1, -⟩ := id t1
    obtain ⟨B2, m2, d2, e2, -⟩ := id t2
    obtain ⟨B3, m3, d3, e3, -⟩ := id t3
    obtain ⟨B4, m4, d4, e4, -⟩ := id t4
    simp only [List.cons.injEq, and_true] at e0 e1 e2 e3 e4
    subst e0 e1 e2 e3 e4
    have hb8 := below_chain hbW hb7
    have HS := Lib.hid (rSame25_any _ _ _ _ _ _ _ _ _ _ _ _ _ _ _ _ _ _ _ _ _ _ _ _ _ _ _ _ _ _ _ _ _ _ _ _ _ _ _ _ _ (kept_RRows _ _ _ _ hb8 r0) (kept_RWd _ _ _ _ hb8 r1) (kept_RWd _ _ _ _ hb8 r2) (kept_RWd _ _ _ _ hb8 r3) (kept_RWd _ _ _ _ hb8 r4) t0 t1 t2 t3 t4)
    rw [decide_eq_true rfl, decide_eq_true rfl, decide_eq_true rfl, decide_eq_true rfl, decide_eq_true rfl] at HS
    simp only [Bool.and_self] at HS
    repeat (first | (refine wpO_skip (later_moves) rfl rfl (fun _ _ _ h => h) ?_ ; simp only [Act.put, List.setIfInBounds_toArray, List.set_cons_zero, List.set_cons_succ]) | (refine wpO_light (v := ?_) (later_moves) rfl rfl (fun _ _ _ h => h) ?_ ?_ ; rotate_left ; (· (intro w' hR ; (first | have hcells := later_cellsD ((later_moves).trans _ _ _ hacc hR) | skip) ; go_simp ; try with_reducible rfl)) ; simp only [Act.put, List.setIfInBounds_toArray, List.set_cons_zero, List.set_cons_succ]))
    refine wpO_call (later_moves) rfl rfl rfl (fun _ => by go_simp <;> rfl) ((HS.out).mono ?_)
    rintro e w9 ⟨rfl, hb9⟩
    refine ⟨_, rfl, hb9, ?_⟩
    replace hacc := (later_moves).trans _ _ _ hacc (hb9)
    simp only [Act.put, List.setIfInBounds_toArray, List.set_cons_zero, List.set_cons_succ]
    have hb10 := below_chain hb8 hb9
    clear HS
    repeat (first | (refine wpO_skip (later_moves) rfl rfl (fun _ _ _ h => h) ?_ ; simp only [Act.put, List.setIfInBounds_toArray, List.set_cons_zero, List.set_cons_succ]) | (refine wpO_light (v := ?_) (later_moves) rfl rfl (fun _ _ _ h => h) ?_ ?_ ; rotate_left ; (· (intro w' hR ; (first | have hcells := later_cellsD ((later_moves).trans _ _ _ hacc hR) | skip) ; go_simp ; try with_reducible rfl)) ; simp only [Act.put, List.setIfInBounds_toArray, List.set_cons_zero, List.set_cons_succ]))
    refine wpO_call (later_moves) rfl rfl rfl (fun _ => by go_simp <;> rfl) ((HO.out _).mono ?_)
    rintro e w11 ⟨rfl, hb11⟩
    refine ⟨_, rfl, hb11, ?_⟩
    replace hacc := (later_moves).trans _ _ _ hacc (hb11)
    simp only [Act.put, List.setIfInBounds_toArray, List.set_cons_zero, List.set_cons_succ]
    have hb12 := below_chain hb10 hb11
    have HV' := Lib.hid (HV.out _ _ _ _ _ _ _ _ _ _ _ _ _ _ _ _ _ _ _ _ _ _ hL (kept_RRows _ _ _ _ hb12 r0) (kept_RWd _ _ _ _ hb12 r1) (kept_RWd _ _ _ _ hb12 r2) (kept_RWd _ _ _ _ hb12 r3) (kept_RWd _ _ _ _ hb12 r4))
    rw [hco] at HV'
    repeat (first | (refine wpO_skip (later_moves) rfl rfl (fun _ _ _ h => h) ?_ ; simp only [Act.put, List.setIfInBounds_toArray, List.set_cons_zero, List.set_cons_succ]) | (refine wpO_light (v := ?_) (later_moves) rfl rfl (fun _ _ _ h => h) ?_ ?_ ; rotate_left ; (· (intro w' hR ; (first | have hcells := later_cellsD ((later_moves).trans _ _ _ hacc hR) | skip) ; go_simp ; try with_reducible rfl)) ; simp only [Act.put, List.setIfInBounds_toArray, List.set_cons_zero, List.set_cons_succ]))
    refine wpO_call (later_moves) rfl rfl rfl (fun _ => by go_simp <;> rfl) ((HV'.out).mono ?_)
    rintro e w13 ⟨rfl, hb13⟩
    refine ⟨_, rfl, hb13, ?_⟩
    replace hacc := (later_moves).trans _ _ _ hacc (hb13)
    simp only [Act.put, List.setIfInBounds_toArray, List.set_cons_zero, List.set_cons_succ]
    have hb14 := below_chain hb12 hb13
    repeat (first | (refine wpO_skip (later_moves) rfl rfl (fun _ _ _ h => h) ?_ ; simp only [Act.put, List.setIfInBounds_toArray, List.set_cons_zero, List.set_cons_succ]) | (refine wpO_light (v := ?_) (later_moves) rfl rfl (fun _ _ _ h => h) ?_ ?_ ; rotate_left ; (· (intro w' hR ; (first | have hcells := later_cellsD ((later_moves).trans _ _ _ hacc hR) | skip) ; go_simp ; try with_reducible rfl)) ; simp only [Act.put, List.setIfInBounds_toArray, List.set_cons_zero, List.set_cons_succ]))
    refine wpO_done ?_
    go_wp2
    go_ret
    exact ⟨rfl, below_chain hb0 hb14⟩
end Go.Proofs.Ytefnagiffllhbaa

/-! MaskFromSeedProof -/
namespace Go.Proofs.Ytefnagiffllhbaa.maskFromSeed
open Go.ChangeShapes Go.WideShapes Go.ChangeAt Go.RowKit
open Go.ChangeMaps (open_string shut_string)
set_option linter.unusedVariables false

theorem own : ownKnob Try.prog.godebug = none := by kernel_rfl
theorem laidOut : laidOutB Try.prog = true := by kernel_rfl

set_option maxRecDepth 100000 in
theorem lifted (os : Os) (started : os.Started) (H : Type) (enc : TypeId × Value → H) :
    ReturnsInHanded {} Try.checked os 3 .any (Rows.maskFromSeedSpec.pre6 enc Try.prog Try.f3 Rows.maskFromSeedRow.domain false) (Rows.maskFromSeedSpec.post enc Try.prog Try.f3 false true false false) := by
  refine returnsInHanded_of_change (C := Try.checked) own started (by kernel_rfl) Try.func3
    (ChangeSpec.witness6 (enc := enc) (C := Try.checked) false ⟨#[], #[.agg #[.int .u64 0, .int .i64 0, .int .i64 0, .slice none 0 0, .int .i64 0, .int .i64 0, .int .i64 0, .slice none 0 0], .int .u64 0], []⟩ 12 (by kernel_rfl) (by kernel_rfl) (by kernel_rfl) (by kernel_rfl)) ?_
  intro W base args ds gs before hval0 hW hcnd _
  have hval : ∀ (j : Nat) t v, Try.f3.params[j]? = some t → args[j]? = some v → Value.okWide Try.prog W .any base t v := hval0
  have hW' := hW
  obtain ⟨p, q, hA0, hV, rfl, hfz, hnd⟩ := hW
  have hA : DataW.TrodAll enc Try.prog W 0 (fun _ => true) true Try.f3.params.toList args.toList ds p := hA0
  rw [Try.params3] at hA hval
  obtain ⟨v0, vs0, d0, ds0, p0, q0, hargs, rfl, rfl, h0, r0⟩ := trodAll_cons hA
  obtain ⟨v1, vs1, d1, ds1, p1, q1, rfl, rfl, rfl, h1, r1⟩ := trodAll_cons r0
  obtain ⟨rfl, rfl, rfl⟩ := trodAll_nil r1
  obtain rfl : args = #[v0, v1] := by cases args; simp_all
  obtain ⟨rfl, rfl⟩ := trodVars_none hV
  have lt0 : ∀ x ∈ p0, x.block < W.heap.size := by obtain ⟨m, hm⟩ := h0; exact DataW.trod_lt m _ _ _ hm
  have k0 := h0
  have lt1 : ∀ x ∈ p1, x.block < W.heap.size := by obtain ⟨m, hm⟩ := h1; exact DataW.trod_lt m _ _ _ hm
  have k1 := h1
  obtain ⟨cs0, rfl, z0⟩ := okWide_struct Try.underlying30 (hval 0 30 v0 rfl rfl)
  obtain ⟨a1, rfl, rfl, rfl, w1⟩ := open_int Try.underlying22 (hval 1 22 _ rfl rfl) h1
  clear hA0 hval0
  refine (maskFromSeed_walk W cs0 (Fits.of_trod k0) a1 w1).mono fun e W' ⟨he, bel⟩ => ?_
  subst he
  exact ⟨_, rfl, _, _, _, [], _, [], hW', trodAll_mk1 (shut_bool Try.underlying4 _), (trodAll_cons_mk (Below.trod laidOut (by kernel_rfl) (of_decide_eq_true (by kernel_rfl)) k0 bel lt0) (trodAll_cons_mk (Below.trod laidOut (by kernel_rfl) (of_decide_eq_true (by kernel_rfl)) k1 bel lt1) trodAll_mk0)), rfl, bel.frame _, fun h => by cases h⟩

theorem over : Rows.maskFromSeedRow.holds Try.pinned (OpenSpec.ofChange Rows.maskFromSeedSpec) :=
  OpenClaim.holds_of_wide 3 Try.f3 rfl rfl rfl rfl rfl rfl rfl ⟨rfl, rfl, rfl, rfl, rfl⟩ rfl rfl rfl rfl rfl (by kernel_rfl) Try.func3 (by kernel_rfl)
    (of_decide_eq_true (by kernel_rfl)) (by unfold Func.isWrapper; first | (rw [if_pos (by decide +kernel)]; kernel_rfl) | (rw [if_neg (by decide +kernel)]; exact ⟨rfl, rfl⟩))
    (fun os started H enc _ => lifted os started H enc)

theorem proved : Rows.MaskFromSeedSaid := over
#print axioms proved
end Go.Proofs.Ytefnagiffllhbaa.maskFromSeed
